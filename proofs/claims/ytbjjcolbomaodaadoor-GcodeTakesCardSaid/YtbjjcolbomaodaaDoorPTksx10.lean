-- Laid by hprint.py of this repo: the kit's printer, and contracts by hand beside it. Not trusted: Lean checks it.
import Derived.Test.YtbjjcolbomaodaaDoorWZ
import Derived.Test.YtbjjcolbomaodaaDoorWY
import Derived.Test.YtbjjcolbomaodaaDoorPTksx0
namespace Go.Proofs.YtbjjcolbomaodaaDoor.PTks
open Go.RowKit Go.Proofs.YtbjjcolbomaodaaDoorW.PrintWords Go.Proofs.YtbjjcolbomaodaaDoorW.PrintLast Go.Proofs.YtbjjcolbomaodaaDoorW.PrintMore
attribute [local go_sem] max2_int min2_int max_two min_two max_three min_three max_four min_four   -- for this text's walks alone
set_option linter.unusedVariables false
set_option linter.unusedSimpArgs false

/-! ### graph_HasOut: function 77 -/
def graph_HasOut.f (a0 : Int) : Option (Bool) := if a0 ≥ 1 then (some (decide (a0 < 11))) else (some false)
set_option maxHeartbeats 8000000 in
set_option maxRecDepth 100000 in
theorem graph_HasOut.calls (a0 : Int) (r : Bool) (w : World) (h : graph_HasOut.f a0 = some r) :
  Calls Tryd.prog 77 #[.int .i64 a0] w fun e w' => e = .returned (.bool r) ∧ Drawn0 w w' := by
 have H : (if a0 ≥ 1 then (some (decide (a0 < 11))) else (some false)) = some r := h
 clear h
 by_cases c2 : a0 ≥ 1
 ·rw [if_pos c2] at H
  have c2b0 : decide (1 ≤ a0) = true := decide_eq_true c2
  clear c2
  obtain rfl := Option.some.inj H
  go_enter Tryd.func77, Tryd.ntmps77
  go_wp2
  go_ret
  exact ⟨ZE, ZD⟩
 ·rw [if_neg c2] at H
  have c2b0 : decide (1 ≤ a0) = false := decide_eq_false c2
  clear c2
  obtain rfl := Option.some.inj H
  go_enter Tryd.func77, Tryd.ntmps77
  go_wp2
  go_ret
  exact ⟨ZE, ZD⟩

/-! ### graph_Ins: function 78 -/
def graph_Ins.f (a0 : Int) : Option (Int) := if a0 = 4 then (some 2) else (if a0 > 1 then (if a0 ≤ 11 then (some 1) else (some 0)) else (some 0))
set_option maxHeartbeats 8000000 in
set_option maxRecDepth 100000 in
theorem graph_Ins.calls (a0 : Int) (r : Int) (w : World) (h : graph_Ins.f a0 = some r) :
  Calls Tryd.prog 78 #[.int .i64 a0] w fun e w' => e = .returned (.int .i64 r) ∧ Drawn0 w w' := by
 have H : (if a0 = 4 then (some 2) else (if a0 > 1 then (if a0 ≤ 11 then (some 1) else (some 0)) else (some 0))) = some r := h
 clear h
 by_cases c2 : a0 = 4
 ·rw [if_pos c2] at H
  have c2b0 : (a0 == 4) = true := beq_iff_eq.mpr c2
  have c2b1 : (a0 != 4) = false := bne_eq_false_iff_eq.mpr c2
  clear c2
  obtain rfl := Option.some.inj H
  go_enter Tryd.func78, Tryd.ntmps78
  go_wp2
  go_ret
  exact ⟨ZE, ZD⟩
 ·rw [if_neg c2] at H
  have c2b0 : (a0 == 4) = false := beq_eq_false_iff_ne.mpr c2
  have c2b1 : (a0 != 4) = true := bne_iff_ne.mpr c2
  by_cases c3 : a0 > 1
  ·rw [if_pos c3] at H
   have c3b0 : decide (1 < a0) = true := decide_eq_true c3
   clear c3
   by_cases c4 : a0 ≤ 11
   ·rw [if_pos c4] at H
    have c4b0 : decide (a0 ≤ 11) = true := decide_eq_true c4
    clear c4
    obtain rfl := Option.some.inj H
    go_enter Tryd.func78, Tryd.ntmps78
    go_wp2
    go_ret
    exact ⟨ZE, ZD⟩
   ·rw [if_neg c4] at H
    have c4b0 : decide (a0 ≤ 11) = false := decide_eq_false c4
    clear c4
    obtain rfl := Option.some.inj H
    go_enter Tryd.func78, Tryd.ntmps78
    go_wp2
    go_ret
    exact ⟨ZE, ZD⟩
  ·rw [if_neg c3] at H
   have c3b0 : decide (1 < a0) = false := decide_eq_false c3
   clear c3
   obtain rfl := Option.some.inj H
   go_enter Tryd.func78, Tryd.ntmps78
   go_wp2
   go_ret
   exact ⟨ZE, ZD⟩

/-! ### graph_Locs: function 58 -/
mutual
def graph_Locs.l0 : Nat → List (S82) → List (S40) → Int → Int → Option ((List (S82)))
 | 0, _, _, _, _ => none
 | k + 1, x3, x9, x10, x11 => if x11 < x10 then (if 0 ≤ x11 then (if x11 < (x9.length : Int) then ((graph_HasOut.f ((rd_T40 x9 x11).f0)).bind fun t144 => (if t144 = true then (graph_Locs.j1 k x3 x11 (-1) x9 x10 x11 ((rd_T40 x9 x11).f0) ((rd_T40 x9 x11).f1) ((rd_T40 x9 x11).f2) ((rd_T40 x9 x11).f3)) else (graph_Locs.j1 k x3 x11 0 x9 x10 x11 ((rd_T40 x9 x11).f0) ((rd_T40 x9 x11).f1) ((rd_T40 x9 x11).f2) ((rd_T40 x9 x11).f3)))) else (none)) else (none)) else (some x3)
def graph_Locs.j1 : Nat → List (S82) → Int → Int → List (S40) → Int → Int → Int → Int → Int → Int → Option ((List (S82)))
 | 0, _, _, _, _, _, _, _, _, _, _ => none
 | k + 1, x3, x4, x6, x9, x10, x11, x144000, x144001, x144002, x144003 => graph_Locs.l1 k x3 x4 x6 x9 x10 x11 x144000 x144001 x144002 x144003
def graph_Locs.l1 : Nat → List (S82) → Int → Int → List (S40) → Int → Int → Int → Int → Int → Int → Option ((List (S82)))
 | 0, _, _, _, _, _, _, _, _, _, _ => none
 | k + 1, x3, x4, x7, x9, x10, x11, x144000, x144001, x144002, x144003 => (graph_Ins.f x144000).bind fun t145 => (if x7 < t145 then (if x3.length < 8796093022208 then (graph_Locs.l1 k (x3 ++ [(⟨x4, x7⟩ : S82)]) x4 (wrap64 (x7 + 1)) x9 x10 x11 x144000 x144001 x144002 x144003) else (none)) else (graph_Locs.l0 k x3 x9 x10 (wrap64 (x11 + 1))))
end
def graph_Locs.f (k : Nat) (l0_0 : List (S40)) (l0_1 : List (S42)) : Option ((List (S82))) := graph_Locs.l0 k ([] : List (S82)) l0_0 (l0_0.length : Int) 0
theorem graph_Locs.mono_l : ∀ k, (∀ y0 y1 y2 y3, LeO (graph_Locs.l0 k y0 y1 y2 y3) (graph_Locs.l0 (k + 1) y0 y1 y2 y3)) ∧ (∀ y0 y1 y2 y3 y4 y5 y6 y7 y8 y9, LeO (graph_Locs.j1 k y0 y1 y2 y3 y4 y5 y6 y7 y8 y9) (graph_Locs.j1 (k + 1) y0 y1 y2 y3 y4 y5 y6 y7 y8 y9)) ∧ (∀ y0 y1 y2 y3 y4 y5 y6 y7 y8 y9, LeO (graph_Locs.l1 k y0 y1 y2 y3 y4 y5 y6 y7 y8 y9) (graph_Locs.l1 (k + 1) y0 y1 y2 y3 y4 y5 y6 y7 y8 y9))
 | 0 => ⟨fun _ _ _ _ r h => by simp [graph_Locs.l0] at h, fun _ _ _ _ _ _ _ _ _ _ r h => by simp [graph_Locs.j1] at h, fun _ _ _ _ _ _ _ _ _ _ r h => by simp [graph_Locs.l1] at h⟩
 | k + 1 => by
  obtain ⟨ih0, ih1, ih2⟩ := graph_Locs.mono_l k
  refine ⟨?_, ?_, ?_⟩
  ·intro y0 y1 y2 y3
   unfold graph_Locs.l0
   repeat' first
   | (with_reducible exact ih0 _ _ _ _)
   | (with_reducible exact ih1 _ _ _ _ _ _ _ _ _ _)
   | (with_reducible exact ih2 _ _ _ _ _ _ _ _ _ _)
   | (with_reducible exact LeO.refl _)
   | (with_reducible exact LeO.none _)
   | (with_reducible refine LeO.ite ?_ ?_)
   | (with_reducible refine LeO.bind ?_ (fun _ => ?_))
   | exact ih0 _ _ _ _
   | exact ih1 _ _ _ _ _ _ _ _ _ _
   | exact ih2 _ _ _ _ _ _ _ _ _ _
   | exact LeO.none _
   | refine LeO.ite ?_ ?_
   | refine LeO.bind ?_ (fun _ => ?_)
  ·intro y0 y1 y2 y3 y4 y5 y6 y7 y8 y9
   unfold graph_Locs.j1
   repeat' first
   | (with_reducible exact ih0 _ _ _ _)
   | (with_reducible exact ih1 _ _ _ _ _ _ _ _ _ _)
   | (with_reducible exact ih2 _ _ _ _ _ _ _ _ _ _)
   | (with_reducible exact LeO.refl _)
   | (with_reducible exact LeO.none _)
   | (with_reducible refine LeO.ite ?_ ?_)
   | (with_reducible refine LeO.bind ?_ (fun _ => ?_))
   | exact ih0 _ _ _ _
   | exact ih1 _ _ _ _ _ _ _ _ _ _
   | exact ih2 _ _ _ _ _ _ _ _ _ _
   | exact LeO.none _
   | refine LeO.ite ?_ ?_
   | refine LeO.bind ?_ (fun _ => ?_)
  ·intro y0 y1 y2 y3 y4 y5 y6 y7 y8 y9
   unfold graph_Locs.l1
   repeat' first
   | (with_reducible exact ih0 _ _ _ _)
   | (with_reducible exact ih1 _ _ _ _ _ _ _ _ _ _)
   | (with_reducible exact ih2 _ _ _ _ _ _ _ _ _ _)
   | (with_reducible exact LeO.refl _)
   | (with_reducible exact LeO.none _)
   | (with_reducible refine LeO.ite ?_ ?_)
   | (with_reducible refine LeO.bind ?_ (fun _ => ?_))
   | exact ih0 _ _ _ _
   | exact ih1 _ _ _ _ _ _ _ _ _ _
   | exact ih2 _ _ _ _ _ _ _ _ _ _
   | exact LeO.none _
   | refine LeO.ite ?_ ?_
   | refine LeO.bind ?_ (fun _ => ?_)
theorem graph_Locs.mono : ∀ a0 a1 k, LeO (graph_Locs.f k a0 a1) (graph_Locs.f (k + 1) a0 a1) := by
 intro a0 a1 k
 obtain ⟨ih0, ih1, ih2⟩ := graph_Locs.mono_l k
 unfold graph_Locs.f
 repeat' first
   | (with_reducible exact ih0 _ _ _ _)
   | (with_reducible exact ih1 _ _ _ _ _ _ _ _ _ _)
   | (with_reducible exact ih2 _ _ _ _ _ _ _ _ _ _)
   | (with_reducible exact LeO.refl _)
   | (with_reducible exact LeO.none _)
   | (with_reducible refine LeO.ite ?_ ?_)
   | (with_reducible refine LeO.bind ?_ (fun _ => ?_))
   | exact ih0 _ _ _ _
   | exact ih1 _ _ _ _ _ _ _ _ _ _
   | exact ih2 _ _ _ _ _ _ _ _ _ _
   | exact LeO.none _
   | refine LeO.ite ?_ ?_
   | refine LeO.bind ?_ (fun _ => ?_)
set_option maxHeartbeats 8000000 in
set_option maxRecDepth 100000 in
theorem graph_Locs.calls (k : Nat) (A0_0 : Option Addr) (c0_0 : Nat) (l0_0 : List (S40)) (A0_1 : Option Addr) (c0_1 : Nat) (l0_1 : List (S42)) (r : List (S82)) (w : World) (hr0_0 : Kd.C k40 w A0_0 l0_0.length l0_0) (hc0_0 : l0_0.length ≤ c0_0) (hr0_1 : Kd.C k42 w A0_1 l0_1.length l0_1) (hc0_1 : l0_1.length ≤ c0_1) (h : graph_Locs.f k l0_0 l0_1 = some r) :
  Calls Tryd.prog 58 #[.agg #[.slice A0_0 l0_0.length c0_0, .slice A0_1 l0_1.length c0_1]] w fun e w' => ∃ v0_ : Value, e = .returned (v0_) ∧ Kd.R k82 82 w' w.heap.size (fun _ => True) v0_ r ∧ Below w.heap.size w w' := by
 have hu27 := Tryd.underlying27
 have hu40 := Tryd.underlying40
 have hu82 := Tryd.underlying82
 have HR0_0 := ZM hr0_0
 have HC0_0 := ZM hc0_0
 clear hr0_0 hc0_0
 have HR0_1 := ZM hr0_1
 have HC0_1 := ZM hc0_1
 clear hr0_1 hc0_1
 have HB := ZM (Below.refl w.heap.size w)
 have H : (graph_Locs.l0 k ([] : List (S82)) l0_0 (l0_0.length : Int) 0) = some r := h
 clear h
 have H' := ZM H
 clear H
 go_enter Tryd.func58, Tryd.ntmps58
 go_wp2_with (first | ((with_reducible refine gate_dst (N := 1) rfl ?_); refine ZBX 1 (cs := #[.slice A0_0 l0_0.length c0_0, .slice A0_1 l0_1.length c0_1]) (t := 27) ?_; intro gb141 hg w2 hbox hb; have n0_ := ZM (ZW (ZBB HB.out) hb); have n1_ := ZM (hbox); have n2_ := ZM (ZGE hg HB.out); have n3_ := ZM (ZGE hg HB.out); clear HB; have HB := n0_; have BK141 := n1_; have GW141 := n2_; have GE141 := n3_; clear n0_ n1_ n2_ n3_; clear hb hbox hg; obtain ⟨hcz3_0, hcz3_1, hfz3_0, hfz3_1⟩ := ZC2 BK141.out))
 go_loopg [3, 11] k (fun kq v3 v11 w' => ∃ (x3_1 : List (S82)) (x11_1 : Int), v11 = .int .i64 x11_1 ∧ Aside0 (graph_Locs.l0 kq x3_1 l0_0 (l0_0.length : Int) x11_1 = some r) ∧ Aside0 (kq ≤ k) ∧ Aside0 (Kd.R k82 82 w' w.heap.size (fun _ => True) v3 x3_1) ∧ Aside0 (w'.heap[gb141]? = some (.cells #[(.slice A0_0 l0_0.length c0_0), (.slice A0_1 l0_1.length c0_1)] 27 (0, 0))) ∧ Aside0 (Below w.heap.size w w'))
 case atStart => exact ⟨(([] : List (S82))), (0), ZE, H', ⟨Nat.le_refl _⟩, ⟨by first | exact Kd.R_nil _ _ _ _ _ | exact Kd.N_nil _ _ _ _ _ | exact Kd.V_nil _ _ _ _ _ | exact Kd.Q_nil _ _ _ _ _ | exact Kd.S_nil _ _ _ _ _⟩, ⟨ZBK BK141.out⟩, ⟨ZBB HB.out⟩⟩
 case round =>
  clear H'
  try clear hcz3_0
  try clear hcz3_1
  try clear hfz3_0
  try clear hfz3_1
  obtain ⟨x3_1, x11_1, rfl, HA, HK1, HO_3, BK141, HB⟩ := hrel
  cases gk with
  | zero => exact absurd HA.out (by simp [graph_Locs.l0])
  | succ k1 =>
   have H := HA.out
   clear HA
   simp only [graph_Locs.l0] at H
   by_cases c4 : x11_1 < (l0_0.length : Int)
   ·rw [if_pos c4] at H
    have c4b0 : decide (x11_1 < (l0_0.length : Int)) = true := decide_eq_true c4
    clear c4
    by_cases c5 : 0 ≤ x11_1
    case neg =>
     rw [if_neg c5] at H
     exact absurd H (by simp)
    rw [if_pos c5] at H
    have c5b0 : decide (0 ≤ x11_1) = true := decide_eq_true c5
    clear c5
    by_cases c6 : x11_1 < (l0_0.length : Int)
    case neg =>
     rw [if_neg c6] at H
     exact absurd H (by simp)
    rw [if_pos c6] at H
    have c6b0 : decide (x11_1 < (l0_0.length : Int)) = true := decide_eq_true c6
    clear c6
    replace H := Option.bind_eq_some_iff.mp H
    obtain ⟨t144, A70, H⟩ := H
    replace H : (if t144 = true then (graph_Locs.j1 k1 x3_1 x11_1 (-1) l0_0 (l0_0.length : Int) x11_1 ((rd_T40 l0_0 x11_1).f0) ((rd_T40 l0_0 x11_1).f1) ((rd_T40 l0_0 x11_1).f2) ((rd_T40 l0_0 x11_1).f3)) else (graph_Locs.j1 k1 x3_1 x11_1 0 l0_0 (l0_0.length : Int) x11_1 ((rd_T40 l0_0 x11_1).f0) ((rd_T40 l0_0 x11_1).f1) ((rd_T40 l0_0 x11_1).f2) ((rd_T40 l0_0 x11_1).f3))) = some r := H
    have A7 := ZM A70
    clear A70
    have HC8 := ZM H
    clear H
    have p142 : 0 ≤ (x11_1 : Int) := ZOD
    have q142 : x11_1 < (l0_0.length : Int) := ZOD
    obtain ⟨ad142, e142, hx142_0, hx142_1, hx142_2, hx142_3⟩ := at_T40 HR0_0.out x11_1 p142 q142
    cases e142
    replace hx142_0 := ZHX HB.out hx142_0
    replace hx142_1 := ZHX HB.out hx142_1
    replace hx142_2 := ZHX HB.out hx142_2
    replace hx142_3 := ZHX HB.out hx142_3
    replace p142 := eq_true p142
    replace q142 := eq_true q142
    go_upto_if 18 with (first | ((with_reducible refine gate_dst (N := 5) rfl ?_); refine ZBX 5 (cs := #[.int .i64 0, .int .i64 0, .int .i64 0, .int .i64 0]) (t := 40) ?_; intro gb143 hg w9 hbox hb; have n0_ := ZM (Kd.R_below (ZRK HO_3.out) hb); have n1_ := ZM (blk_below (ZBK BK141.out) hb); have n2_ := ZM (ZW (ZBB HB.out) hb); have n3_ := ZM (hbox); have n4_ := ZM (ZGE hg HB.out); have n5_ := ZM (ZGE hg HB.out); have n6_ := ZM (ZNE hg BK141.out); have n7_ := ZM (ZNG hg BK141.out); clear HO_3; clear BK141; clear HB; have HO_3 := n0_; have BK141 := n1_; have HB := n2_; have BK143 := n3_; have GW143 := n4_; have GE143 := n5_; have NB141_143 := n6_; have NB143_141 := n7_; clear n0_ n1_ n2_ n3_ n4_ n5_ n6_ n7_; clear hb hbox hg; have hnb10 := NB143_141.out; have hnc10 := NB141_143.out; obtain ⟨hcz11_0, hcz11_1, hcz11_2, hcz11_3, hfz11_0, hfz11_1, hfz11_2, hfz11_3⟩ := ZC4 BK143.out) | ((with_reducible refine gate_callee (f := 77) rfl ?_); refine goesL_ (some 18) rfl rfl Tryd.func77 (by kernel_rfl) rfl #[.int .i64 ((rd_T40 l0_0 x11_1).f0)] rfl ZH ?_; (with_reducible refine (graph_HasOut.calls ((rd_T40 l0_0 x11_1).f0) t144 _ A7.out).mono ?_); rintro e w' ⟨rfl, ⟨nd, rfl⟩⟩; refine ⟨_, rfl, ?_⟩))
    (try simp only [Act.put, ZI, ZJ, ZK])
    go_cut [6] (fun v6 wc => ∃ (kq : Nat) (x6_7 : Int), v6 = .int .i64 x6_7 ∧ Aside0 (graph_Locs.j1 kq x3_1 x11_1 x6_7 l0_0 (l0_0.length : Int) x11_1 ((rd_T40 l0_0 x11_1).f0) ((rd_T40 l0_0 x11_1).f1) ((rd_T40 l0_0 x11_1).f2) ((rd_T40 l0_0 x11_1).f3) = some r) ∧ Aside0 (kq ≤ k1) ∧ Aside0 (Kd.R k82 82 wc w.heap.size (fun _ => True) u3 x3_1) ∧ Aside0 (wc.heap[gb141]? = some (.cells #[(.slice (some ad142) l0_0.length c0_0), (.slice A0_1 l0_1.length c0_1)] 27 (0, 0))) ∧ Aside0 (wc.heap[gb143]? = some (.cells #[.int .i64 ((rd_T40 l0_0 x11_1).f0), .int .i64 ((rd_T40 l0_0 x11_1).f1), .int .i64 ((rd_T40 l0_0 x11_1).f2), .int .i64 ((rd_T40 l0_0 x11_1).f3)] 40 (0, 0))) ∧ Aside0 (Below w.heap.size w wc))
    case first =>
     have H := HC8.out
     clear HC8
     by_cases c12 : t144 = true
     ·subst c12
      have H1 : (graph_Locs.j1 k1 x3_1 x11_1 (-1) l0_0 (l0_0.length : Int) x11_1 ((rd_T40 l0_0 x11_1).f0) ((rd_T40 l0_0 x11_1).f1) ((rd_T40 l0_0 x11_1).f2) ((rd_T40 l0_0 x11_1).f3)) = some r := by rw [if_pos rfl] at H; exact H
      clear H
      have H := H1
      clear H1
      have H' := ZM H
      clear H
      go_wp2
      go_meet
      case rel => exact ⟨_, ((-1)), ZE, H', ⟨by have := HK1.out; first | omega | exact Nat.le_refl _⟩, ⟨by (with_reducible repeat (first | apply ZY | apply ZX | apply ZZ)); exact Kd.R_mono (Kd.R_far (p := ⟨gb143, 3, none⟩) (Kd.R_far (p := ⟨gb143, 2, none⟩) (Kd.R_far (p := ⟨gb143, 1, none⟩) (Kd.R_far (p := ⟨gb143, 0, none⟩) (Kd.R_types HO_3.out BK143.out (by decide)) (fun _ hk => hk.2) (.int .i64 ((rd_T40 l0_0 x11_1).f0))) (fun _ hk => hk.2) (.int .i64 ((rd_T40 l0_0 x11_1).f1))) (fun _ hk => hk.2) (.int .i64 ((rd_T40 l0_0 x11_1).f2))) (fun _ hk => hk.2) (.int .i64 ((rd_T40 l0_0 x11_1).f3))) (fun _ hk => trivial)⟩, ⟨ZBF BK141.out NB141_143.out⟩, ⟨by (with_reducible repeat (first | refine ZR ?_ _ | refine ZS ?_ | refine ZT ?_ _)); refine blk_put (cs := #[.int .i64 ((rd_T40 l0_0 x11_1).f0), .int .i64 ((rd_T40 l0_0 x11_1).f1), .int .i64 ((rd_T40 l0_0 x11_1).f2), .int .i64 0]) ?_ 3 _ rfl; (with_reducible repeat (first | refine ZR ?_ _ | refine ZS ?_ | refine ZT ?_ _)); refine blk_put (cs := #[.int .i64 ((rd_T40 l0_0 x11_1).f0), .int .i64 ((rd_T40 l0_0 x11_1).f1), .int .i64 0, .int .i64 0]) ?_ 2 _ rfl; (with_reducible repeat (first | refine ZR ?_ _ | refine ZS ?_ | refine ZT ?_ _)); refine blk_put (cs := #[.int .i64 ((rd_T40 l0_0 x11_1).f0), .int .i64 0, .int .i64 0, .int .i64 0]) ?_ 1 _ rfl; (with_reducible repeat (first | refine ZR ?_ _ | refine ZS ?_ | refine ZT ?_ _)); refine blk_put (cs := #[.int .i64 0, .int .i64 0, .int .i64 0, .int .i64 0]) ?_ 0 _ rfl; (with_reducible repeat (first | refine ZR ?_ _ | refine ZS ?_ | refine ZT ?_ _)); exact BK143.out⟩, ⟨ZBB HB.out⟩⟩
     ·replace c12 := Bool.eq_false_iff.mpr c12
      subst c12
      have H1 : (graph_Locs.j1 k1 x3_1 x11_1 0 l0_0 (l0_0.length : Int) x11_1 ((rd_T40 l0_0 x11_1).f0) ((rd_T40 l0_0 x11_1).f1) ((rd_T40 l0_0 x11_1).f2) ((rd_T40 l0_0 x11_1).f3)) = some r := by rw [if_neg (show ¬ (false = true) by decide)] at H; exact H
      clear H
      have H := H1
      clear H1
      have H' := ZM H
      clear H
      go_wp2
      go_meet
      case rel => exact ⟨_, (0), ZE, H', ⟨by have := HK1.out; first | omega | exact Nat.le_refl _⟩, ⟨by (with_reducible repeat (first | apply ZY | apply ZX | apply ZZ)); exact Kd.R_mono (Kd.R_far (p := ⟨gb143, 3, none⟩) (Kd.R_far (p := ⟨gb143, 2, none⟩) (Kd.R_far (p := ⟨gb143, 1, none⟩) (Kd.R_far (p := ⟨gb143, 0, none⟩) (Kd.R_types HO_3.out BK143.out (by decide)) (fun _ hk => hk.2) (.int .i64 ((rd_T40 l0_0 x11_1).f0))) (fun _ hk => hk.2) (.int .i64 ((rd_T40 l0_0 x11_1).f1))) (fun _ hk => hk.2) (.int .i64 ((rd_T40 l0_0 x11_1).f2))) (fun _ hk => hk.2) (.int .i64 ((rd_T40 l0_0 x11_1).f3))) (fun _ hk => trivial)⟩, ⟨ZBF BK141.out NB141_143.out⟩, ⟨by (with_reducible repeat (first | refine ZR ?_ _ | refine ZS ?_ | refine ZT ?_ _)); refine blk_put (cs := #[.int .i64 ((rd_T40 l0_0 x11_1).f0), .int .i64 ((rd_T40 l0_0 x11_1).f1), .int .i64 ((rd_T40 l0_0 x11_1).f2), .int .i64 0]) ?_ 3 _ rfl; (with_reducible repeat (first | refine ZR ?_ _ | refine ZS ?_ | refine ZT ?_ _)); refine blk_put (cs := #[.int .i64 ((rd_T40 l0_0 x11_1).f0), .int .i64 ((rd_T40 l0_0 x11_1).f1), .int .i64 0, .int .i64 0]) ?_ 2 _ rfl; (with_reducible repeat (first | refine ZR ?_ _ | refine ZS ?_ | refine ZT ?_ _)); refine blk_put (cs := #[.int .i64 ((rd_T40 l0_0 x11_1).f0), .int .i64 0, .int .i64 0, .int .i64 0]) ?_ 1 _ rfl; (with_reducible repeat (first | refine ZR ?_ _ | refine ZS ?_ | refine ZT ?_ _)); refine blk_put (cs := #[.int .i64 0, .int .i64 0, .int .i64 0, .int .i64 0]) ?_ 0 _ rfl; (with_reducible repeat (first | refine ZR ?_ _ | refine ZS ?_ | refine ZT ?_ _)); exact BK143.out⟩, ⟨ZBB HB.out⟩⟩
    case rest =>
     clear HC8
     try clear c4
     try clear c4b0
     try clear c5
     try clear c5b0
     try clear c6
     try clear c6b0
     try clear c12
     try clear hcz11_0
     try clear hcz11_1
     try clear hcz11_2
     try clear hcz11_3
     try clear hcz3_0
     try clear hcz3_1
     try clear hfz11_0
     try clear hfz11_1
     try clear hfz11_2
     try clear hfz11_3
     try clear hfz3_0
     try clear hfz3_1
     try clear hx142_0
     try clear hx142_1
     try clear hx142_2
     try clear hx142_3
     try clear p142
     try clear q142
     obtain ⟨kq, x6_7, rfl, HA, HJ7, HO_3, BK141, BK143, HB⟩ := hcut
     cases kq with
     | zero => exact absurd HA.out (by simp [graph_Locs.j1])
     | succ kj7 =>
      have H := HA.out
      clear HA
      simp only [graph_Locs.j1] at H
      have H' := ZM H
      clear H
      go_wp2
      go_loopg [3, 7] kj7 (fun kq v3 v7 w' => ∃ (x3_3 : List (S82)) (x7_3 : Int), v7 = .int .i64 x7_3 ∧ Aside0 (graph_Locs.l1 kq x3_3 x11_1 x7_3 l0_0 (l0_0.length : Int) x11_1 ((rd_T40 l0_0 x11_1).f0) ((rd_T40 l0_0 x11_1).f1) ((rd_T40 l0_0 x11_1).f2) ((rd_T40 l0_0 x11_1).f3) = some r) ∧ Aside0 (kq ≤ kj7) ∧ Aside0 (Kd.R k82 82 w' w.heap.size (fun _ => True) v3 x3_3) ∧ Aside0 (w'.heap[gb141]? = some (.cells #[(.slice (some ad142) l0_0.length c0_0), (.slice A0_1 l0_1.length c0_1)] 27 (0, 0))) ∧ Aside0 (w'.heap[gb143]? = some (.cells #[.int .i64 ((rd_T40 l0_0 x11_1).f0), .int .i64 ((rd_T40 l0_0 x11_1).f1), .int .i64 ((rd_T40 l0_0 x11_1).f2), .int .i64 ((rd_T40 l0_0 x11_1).f3)] 40 (0, 0))) ∧ Aside0 (Below w.heap.size w w'))
      case atStart => exact ⟨(x3_1), (x6_7), ZE, H', ⟨Nat.le_refl _⟩, ⟨ZRK HO_3.out⟩, ⟨ZBK BK141.out⟩, ⟨ZBK BK143.out⟩, ⟨ZBB HB.out⟩⟩
      case round =>
       clear H'
       try clear c4
       try clear c4b0
       try clear c5
       try clear c5b0
       try clear c6
       try clear c6b0
       try clear c12
       try clear hcz11_0
       try clear hcz11_1
       try clear hcz11_2
       try clear hcz11_3
       try clear hcz3_0
       try clear hcz3_1
       try clear hfz11_0
       try clear hfz11_1
       try clear hfz11_2
       try clear hfz11_3
       try clear hfz3_0
       try clear hfz3_1
       try clear hx142_0
       try clear hx142_1
       try clear hx142_2
       try clear hx142_3
       try clear p142
       try clear q142
       obtain ⟨x3_3, x7_3, rfl, HA, HK3, HO_3, BK141, BK143, HB⟩ := hrel
       cases gk with
       | zero => exact absurd HA.out (by simp [graph_Locs.l1])
       | succ k3 =>
        have H := HA.out
        clear HA
        simp only [graph_Locs.l1] at H
        replace H := Option.bind_eq_some_iff.mp H
        obtain ⟨t145, A130, H⟩ := H
        replace H : (if x7_3 < t145 then (if x3_3.length < 8796093022208 then (graph_Locs.l1 k3 (x3_3 ++ [(⟨x11_1, x7_3⟩ : S82)]) x11_1 (wrap64 (x7_3 + 1)) l0_0 (l0_0.length : Int) x11_1 ((rd_T40 l0_0 x11_1).f0) ((rd_T40 l0_0 x11_1).f1) ((rd_T40 l0_0 x11_1).f2) ((rd_T40 l0_0 x11_1).f3)) else (none)) else (graph_Locs.l0 k3 x3_3 l0_0 (l0_0.length : Int) (wrap64 (x11_1 + 1)))) = some r := H
        have A13 := ZM A130
        clear A130
        by_cases c14 : x7_3 < t145
        ·rw [if_pos c14] at H
         have c14b0 : decide (x7_3 < t145) = true := decide_eq_true c14
         clear c14
         by_cases c15 : x3_3.length < 8796093022208
         case neg =>
          rw [if_neg c15] at H
          exact absurd H (by simp)
         rw [if_pos c15] at H
         have LMc15 := ZM c15
         clear c15
         obtain ⟨y146, hy146⟩ : ∃ y_ : List (S82), y_ = (x3_3 ++ [(⟨x11_1, x7_3⟩ : S82)]) := ⟨_, rfl⟩
         replace H : (graph_Locs.l1 k3 y146 x11_1 (wrap64 (x7_3 + 1)) l0_0 (l0_0.length : Int) x11_1 ((rd_T40 l0_0 x11_1).f0) ((rd_T40 l0_0 x11_1).f1) ((rd_T40 l0_0 x11_1).f2) ((rd_T40 l0_0 x11_1).f3)) = some r := by first | (rw [hy146]; with_reducible exact H) | (have H2_ := (Option.bind_some _ _).symm.trans H; rw [hy146]; with_reducible exact H2_) | (have H2_ := (Option.bind_some _ _).symm.trans H; with_reducible exact H2_) | with_reducible exact H | (rw [hy146]; exact H) | exact H
         have Ny146 := ZM hy146
         clear hy146
         have H' := ZM H
         clear H
         have hnb16 := NB143_141.out
         have hnc16 := NB141_143.out
         obtain ⟨hcz17_0, hcz17_1, hcz17_2, hcz17_3, hfz17_0, hfz17_1, hfz17_2, hfz17_3⟩ := ZC4 BK143.out
         go_wp2_with (first | ((with_reducible refine gate_callee (f := 78) rfl ?_); refine goesL_ (some 23) rfl rfl Tryd.func78 (by kernel_rfl) rfl #[.int .i64 ((rd_T40 l0_0 x11_1).f0)] rfl ZH ?_; (with_reducible refine (graph_Ins.calls ((rd_T40 l0_0 x11_1).f0) t145 _ A13.out).mono ?_); rintro e w' ⟨rfl, ⟨nd, rfl⟩⟩; refine ⟨_, rfl, ?_⟩) | ((with_reducible refine gate_builtin (b := .append) (xs := #[.tmp 27, .tmp 31]) rfl ?_); at_builtin; refine Kd.R_append k82 (w0 := w) w.heap.size rfl (.tmp 27) (.tmp 31) 84 82 (.agg #[(.int .i64 0), (.int .i64 0)]) 16 rfl Tryd.underlying84 info82 rfl (by decide) (by omega) u3 x3_3 (⟨x11_1, x7_3⟩ : S82) [.int .i64 x11_1, .int .i64 x7_3] (fun _ => True) (fun _ => False) rfl rfl ?aP (fun _ hk => hk.elim) ?aF ?aO ?aB ?aS ?aL ?_; (case aP => exact k82_mkM _ _ _ (⟨x11_1, x7_3⟩ : S82)); (case aB => exact (ZBB HB.out)); (case aF => exact (fun _ _ => trivial)); (case aO => exact (ZRK HO_3.out)); (case aS => exact (ZV (ZBB HB.out))); (case aL => have := LMc15.out; omega); intro v147 w18 ho hb hg hat; rw [← Ny146.out] at ho; have n0_ := ZM (blk_grown (g := gb141) (o := .cells #[.slice (some ad142) l0_0.length c0_0, .slice A0_1 l0_1.length c0_1] 27 (0, 0)) (ZBK BK141.out) hg (Kd.R_ne HO_3.out BK141.out (by decide))); have n1_ := ZM (blk_grown (g := gb143) (o := .cells #[.int .i64 ((rd_T40 l0_0 x11_1).f0), .int .i64 ((rd_T40 l0_0 x11_1).f1), .int .i64 ((rd_T40 l0_0 x11_1).f2), .int .i64 ((rd_T40 l0_0 x11_1).f3)] 40 (0, 0)) (ZBK BK143.out) hg (Kd.R_ne HO_3.out BK143.out (by decide))); have n2_ := ZM (hb); have n3_ := ZM (ho); clear BK141; clear BK143; clear HB; clear HO_3; have BK141 := n0_; have BK143 := n1_; have HB := n2_; have HO148 := n3_; clear n0_ n1_ n2_ n3_; clear ho hb hg hat))
         go_roundg k3
         case measure => have := HK1.out; have := HJ7.out; have := HK3.out; omega
         case rel => exact ⟨(y146), (wrap64 (x7_3 + 1)), ZE, H', ⟨by have := HK1.out; have := HJ7.out; have := HK3.out; omega⟩, ⟨ZRK HO148.out⟩, ⟨ZBK BK141.out⟩, ⟨ZBK BK143.out⟩, ⟨ZBB HB.out⟩⟩
        ·rw [if_neg c14] at H
         have c14b0 : decide (x7_3 < t145) = false := decide_eq_false c14
         clear c14
         have H' := ZM H
         clear H
         have hnb19 := NB143_141.out
         have hnc19 := NB141_143.out
         obtain ⟨hcz20_0, hcz20_1, hcz20_2, hcz20_3, hfz20_0, hfz20_1, hfz20_2, hfz20_3⟩ := ZC4 BK143.out
         go_wp2_with (first | ((with_reducible refine gate_callee (f := 78) rfl ?_); refine goesL_ (some 23) rfl rfl Tryd.func78 (by kernel_rfl) rfl #[.int .i64 ((rd_T40 l0_0 x11_1).f0)] rfl ZH ?_; (with_reducible refine (graph_Ins.calls ((rd_T40 l0_0 x11_1).f0) t145 _ A13.out).mono ?_); rintro e w' ⟨rfl, ⟨nd, rfl⟩⟩; refine ⟨_, rfl, ?_⟩))
         go_roundg k3
         case measure => have := HK1.out; have := HJ7.out; have := HK3.out; omega
         case rel => exact ⟨(x3_3), (wrap64 (x11_1 + 1)), ZE, H', ⟨by have := HK1.out; have := HJ7.out; have := HK3.out; omega⟩, ⟨ZRK HO_3.out⟩, ⟨ZBK BK141.out⟩, ⟨ZBB HB.out⟩⟩
   ·rw [if_neg c4] at H
    have c4b0 : decide (x11_1 < (l0_0.length : Int)) = false := decide_eq_false c4
    clear c4
    obtain rfl := Option.some.inj H
    go_wp2
    go_ret
    exact ⟨_, ZEE, ZRK HO_3.out, ZBB HB.out⟩

/-! ### graph_end: function 81 -/
def graph_end.f (a0_0 : Int) (a0_1 : Int) (a0_2 : Int) : Option (Int × Int) := some (a0_1, a0_2)
set_option maxHeartbeats 8000000 in
set_option maxRecDepth 100000 in
theorem graph_end.calls (a0_0 : Int) (a0_1 : Int) (a0_2 : Int) (r1 : Int) (r2 : Int) (w : World) (h : graph_end.f a0_0 a0_1 a0_2 = some (r1, r2)) :
  Calls Tryd.prog 81 #[.agg #[.int .i64 a0_0, .int .i64 a0_1, .int .i64 a0_2]] w fun e w' => e = .returned (.agg #[.int .i64 r1, .int .i64 r2]) ∧ Below w.heap.size w w' := by
 have hu42 := Tryd.underlying42
 have hu82 := Tryd.underlying82
 have HB := ZM (Below.refl w.heap.size w)
 have H : (some (a0_1, a0_2)) = some (r1, r2) := h
 clear h
 simp only [Option.some.injEq, Prod.mk.injEq] at H
 obtain ⟨rfl, rfl⟩ := H
 go_enter Tryd.func81, Tryd.ntmps81
 go_wp2_with (first | ((with_reducible refine gate_dst (N := 1) rfl ?_); refine ZBX 1 (cs := #[.int .i64 a0_0, .int .i64 a0_1, .int .i64 a0_2]) (t := 42) ?_; intro gb149 hg w2 hbox hb; have n0_ := ZM (ZW (ZBB HB.out) hb); have n1_ := ZM (hbox); have n2_ := ZM (ZGE hg HB.out); have n3_ := ZM (ZGE hg HB.out); clear HB; have HB := n0_; have BK149 := n1_; have GW149 := n2_; have GE149 := n3_; clear n0_ n1_ n2_ n3_; clear hb hbox hg) | ((with_reducible refine gate_dst (N := 2) rfl ?_); refine ZBX 2 (cs := #[.int .i64 0, .int .i64 0]) (t := 82) ?_; intro gb150 hg w3 hbox hb; have n0_ := ZM (blk_below (ZBK BK149.out) hb); have n1_ := ZM (ZW (ZBB HB.out) hb); have n2_ := ZM (hbox); have n3_ := ZM (ZGE hg HB.out); have n4_ := ZM (ZGE hg HB.out); have n5_ := ZM (ZNE hg BK149.out); have n6_ := ZM (ZNG hg BK149.out); clear BK149; clear HB; have BK149 := n0_; have HB := n1_; have BK150 := n2_; have GW150 := n3_; have GE150 := n4_; have NB149_150 := n5_; have NB150_149 := n6_; clear n0_ n1_ n2_ n3_ n4_ n5_ n6_; clear hb hbox hg; have hnb4 := NB149_150.out; have hnc4 := NB150_149.out; obtain ⟨hcz5_0, hcz5_1, hcz5_2, hfz5_0, hfz5_1, hfz5_2⟩ := ZC3 BK149.out; obtain ⟨hcz6_0, hcz6_1, hfz6_0, hfz6_1⟩ := ZC2 BK150.out))
 refine bodyPost_ret (results_cell_row rfl _ _ gb150 82 #[.int .i64 a0_1, .int .i64 a0_2] (0, 0) _ rfl (by (with_reducible repeat (first | refine ZR ?_ _ | refine ZS ?_ | refine ZT ?_ _)); refine blk_put (cs := #[.int .i64 a0_1, .int .i64 0]) ?_ 1 _ rfl; (with_reducible repeat (first | refine ZR ?_ _ | refine ZS ?_ | refine ZT ?_ _)); refine blk_put (cs := #[.int .i64 0, .int .i64 0]) ?_ 0 _ rfl; (with_reducible repeat (first | refine ZR ?_ _ | refine ZS ?_ | refine ZT ?_ _)); exact BK150.out) Tryd.underlying82 rfl (by kernel_rfl)) rfl ?_
 exact ⟨ZEE, ZBB HB.out⟩

/-! ### graph_Prev: function 59 -/
def graph_Prev.l0 : Nat → List (S42) → Int → Int → List Int → Int → Option (List Int)
  | 0, _, _, _, _, _ => none
  | k + 1, es, n0, n1, x5, x6 => if x6 < (es.length : Int) then (if 0 ≤ x6 then (if (rd_T42 es x6).f1 = n0 ∧ (rd_T42 es x6).f2 = n1 then (if x5.length < 17592186044416 then graph_Prev.l0 k es n0 n1 (x5 ++ [(rd_T42 es x6).f0]) (wrap64 (x6 + 1)) else none) else graph_Prev.l0 k es n0 n1 x5 (wrap64 (x6 + 1))) else none) else some x5
def graph_Prev.f (k : Nat) (l0_0 : List (S40)) (l0_1 : List (S42)) (a1_0 : Int) (a1_1 : Int) : Option (List Int) := graph_Prev.l0 k l0_1 a1_0 a1_1 [] 0
theorem graph_Prev.mono_l : ∀ k, (∀ y0 y1 y2 y3 y4, LeO (graph_Prev.l0 k y0 y1 y2 y3 y4) (graph_Prev.l0 (k + 1) y0 y1 y2 y3 y4))
  | 0 => fun _ _ _ _ _ r h => by simp [graph_Prev.l0] at h
  | k + 1 => by
    have ih0 := graph_Prev.mono_l k
    intro y0 y1 y2 y3 y4
    unfold graph_Prev.l0
    repeat' first
      | (with_reducible exact ih0 _ _ _ _ _)
      | (with_reducible exact LeO.refl _)
      | (with_reducible exact LeO.none _)
      | (with_reducible refine LeO.ite ?_ ?_)
      | (with_reducible refine LeO.bind ?_ (fun _ => ?_))
theorem graph_Prev.mono : ∀ a0 a1 a2 a3 k, LeO (graph_Prev.f k a0 a1 a2 a3) (graph_Prev.f (k + 1) a0 a1 a2 a3) := by
  intro a0 a1 a2 a3 k
  have ih0 := graph_Prev.mono_l k
  unfold graph_Prev.f
  repeat' first
      | (with_reducible exact ih0 _ _ _ _ _)
      | (with_reducible exact LeO.refl _)
      | (with_reducible refine LeO.ite ?_ ?_)
      | (with_reducible refine LeO.bind ?_ (fun _ => ?_))
theorem bcellP {W w1 : World} (hb : Below W.heap.size W w1) : (∀ b o, b < W.heap.size → w1.cell? ⟨b, o, none⟩ = W.cell? ⟨b, o, none⟩) ∧ (∀ b o, b < W.heap.size → w1.frozen? ⟨b, o, none⟩ = W.frozen? ⟨b, o, none⟩) :=
  ⟨fun b o h => hb.cell (p := ⟨b, o, none⟩) h, fun b o h => hb.frozen (p := ⟨b, o, none⟩) h⟩
/-- Does an edge lead to a place? -/
def isAt (x : S42) (n0 n1 : Int) : Bool := decide (x.f1 = n0 ∧ x.f2 = n1)
set_option maxHeartbeats 2000000 in
set_option maxRecDepth 100000 in
theorem prev1_calls (e0 e1 e2 n0 n1 : Int) (g : Nat) (w : World) (hg : w.heap[g]? = some (.cells #[.int .i64 n0, .int .i64 n1] 82 (0, 0))) :
    Calls Tryd.prog 80 #[.agg #[.int .i64 e0, .int .i64 e1, .int .i64 e2], .pointer (some ⟨g, 0, none⟩)] w fun e w' => e = .returned (.tuple #[.int .i64 e0, .bool (isAt ⟨e0, e1, e2⟩ n0 n1)]) ∧ Below w.heap.size w w' := by
  have hu35 := Tryd.underlying42
  have hu23 := Tryd.underlying82
  have hgl : g < w.heap.size := blk_lt hg
  have hcg : w.cell? ⟨g, 0, none⟩ = some (.int .i64 n0) := (ZG hg 0).trans rfl
  have hcg1 : w.cell? ⟨g, 1, none⟩ = some (.int .i64 n1) := (ZG hg 1).trans rfl
  have hz : graph_end.f e0 e1 e2 = some (e1, e2) := rfl
  have HZ := ZM hz
  clear hz hg
  have hne1 : (g = w.heap.size) = False := eq_false (by omega)
  have hne3 : (w.heap.size = g) = False := eq_false (by omega)
  by_cases h1 : e1 = n0
  · have g1 : (e1 == n0) = true := beq_iff_eq.mpr h1
    by_cases h2 : e2 = n1
    · have g2 : (e2 == n1) = true := beq_iff_eq.mpr h2
      have X := ZM (And.intro h1 h2)
      clear h1 h2
      go_enter Tryd.func80, Tryd.ntmps80
      go_wp2
      go_region_held3 (fun w' => w'.cell? ⟨w.heap.size, 0, none⟩ = some (.int .i64 e0) ∧ w'.cell? ⟨w.heap.size, 1, none⟩ = some (.int .i64 e1) ∧ w'.cell? ⟨w.heap.size, 2, none⟩ = some (.int .i64 e2) ∧ w'.cell? ⟨g, 0, none⟩ = some (.int .i64 n0) ∧ w'.cell? ⟨g, 1, none⟩ = some (.int .i64 n1)) (go_keep)
        (first | (go_at_call 81; (with_reducible refine (graph_end.calls e0 e1 e2 e1 e2 _ HZ.out).mono ?_); rintro e w1 ⟨rfl, hb⟩; obtain ⟨hc, hf⟩ := bcellP hb; have q0 : w1.cell? ⟨w.heap.size, 0, none⟩ = some (.int .i64 e0) := (hc w.heap.size 0 (by simp <;> omega)).trans ((ZG (ZS (blk_new w _)) 0).trans rfl); have q1 : w1.cell? ⟨w.heap.size, 1, none⟩ = some (.int .i64 e1) := (hc w.heap.size 1 (by simp <;> omega)).trans ((ZG (ZS (blk_new w _)) 1).trans rfl); have q2 : w1.cell? ⟨w.heap.size, 2, none⟩ = some (.int .i64 e2) := (hc w.heap.size 2 (by simp <;> omega)).trans ((ZG (ZS (blk_new w _)) 2).trans rfl); have q3 : w1.cell? ⟨g, 0, none⟩ = some (.int .i64 n0) := (hc g 0 (by simp <;> omega)).trans (by go_simp); have q4 : w1.cell? ⟨g, 1, none⟩ = some (.int .i64 n1) := (hc g 1 (by simp <;> omega)).trans (by go_simp); clear hc hf; have HBB := ZM (ZW (below_drew (ZO (Below.refl w.heap.size w) _)) hb); clear hb))
      go_wp2
      refine bodyPost_ret (v := .tuple #[.int .i64 e0, .bool true]) (by simp [results, Tryd.results80, go_sem]) rfl ⟨by rw [show isAt ⟨e0, e1, e2⟩ n0 n1 = true from decide_eq_true X.out], HBB.out⟩
    · have g2 : (e2 == n1) = false := beq_eq_false_iff_ne.mpr h2
      have X := ZM h2
      clear h1 h2
      go_enter Tryd.func80, Tryd.ntmps80
      go_wp2
      go_region_held3 (fun w' => w'.cell? ⟨w.heap.size, 0, none⟩ = some (.int .i64 e0) ∧ w'.cell? ⟨w.heap.size, 1, none⟩ = some (.int .i64 e1) ∧ w'.cell? ⟨w.heap.size, 2, none⟩ = some (.int .i64 e2) ∧ w'.cell? ⟨g, 0, none⟩ = some (.int .i64 n0) ∧ w'.cell? ⟨g, 1, none⟩ = some (.int .i64 n1)) (go_keep)
        (first | (go_at_call 81; (with_reducible refine (graph_end.calls e0 e1 e2 e1 e2 _ HZ.out).mono ?_); rintro e w1 ⟨rfl, hb⟩; obtain ⟨hc, hf⟩ := bcellP hb; have q0 : w1.cell? ⟨w.heap.size, 0, none⟩ = some (.int .i64 e0) := (hc w.heap.size 0 (by simp <;> omega)).trans ((ZG (ZS (blk_new w _)) 0).trans rfl); have q1 : w1.cell? ⟨w.heap.size, 1, none⟩ = some (.int .i64 e1) := (hc w.heap.size 1 (by simp <;> omega)).trans ((ZG (ZS (blk_new w _)) 1).trans rfl); have q2 : w1.cell? ⟨w.heap.size, 2, none⟩ = some (.int .i64 e2) := (hc w.heap.size 2 (by simp <;> omega)).trans ((ZG (ZS (blk_new w _)) 2).trans rfl); have q3 : w1.cell? ⟨g, 0, none⟩ = some (.int .i64 n0) := (hc g 0 (by simp <;> omega)).trans (by go_simp); have q4 : w1.cell? ⟨g, 1, none⟩ = some (.int .i64 n1) := (hc g 1 (by simp <;> omega)).trans (by go_simp); clear hc hf; have HBB := ZM (ZW (below_drew (ZO (Below.refl w.heap.size w) _)) hb); clear hb))
      go_wp2
      refine bodyPost_ret (v := .tuple #[.int .i64 e0, .bool false]) (by simp [results, Tryd.results80, go_sem]) rfl ⟨by rw [show isAt ⟨e0, e1, e2⟩ n0 n1 = false from decide_eq_false (fun h => X.out h.2)], HBB.out⟩
  · have g1 : (e1 == n0) = false := beq_eq_false_iff_ne.mpr h1
    have X := ZM h1
    clear h1
    go_enter Tryd.func80, Tryd.ntmps80
    go_wp2
    go_region_held3 (fun w' => w'.cell? ⟨w.heap.size, 0, none⟩ = some (.int .i64 e0) ∧ w'.cell? ⟨w.heap.size, 1, none⟩ = some (.int .i64 e1) ∧ w'.cell? ⟨w.heap.size, 2, none⟩ = some (.int .i64 e2) ∧ w'.cell? ⟨g, 0, none⟩ = some (.int .i64 n0) ∧ w'.cell? ⟨g, 1, none⟩ = some (.int .i64 n1)) (go_keep)
      (first | (go_at_call 81; (with_reducible refine (graph_end.calls e0 e1 e2 e1 e2 _ HZ.out).mono ?_); rintro e w1 ⟨rfl, hb⟩; obtain ⟨hc, hf⟩ := bcellP hb; have q0 : w1.cell? ⟨w.heap.size, 0, none⟩ = some (.int .i64 e0) := (hc w.heap.size 0 (by simp <;> omega)).trans ((ZG (ZS (blk_new w _)) 0).trans rfl); have q1 : w1.cell? ⟨w.heap.size, 1, none⟩ = some (.int .i64 e1) := (hc w.heap.size 1 (by simp <;> omega)).trans ((ZG (ZS (blk_new w _)) 1).trans rfl); have q2 : w1.cell? ⟨w.heap.size, 2, none⟩ = some (.int .i64 e2) := (hc w.heap.size 2 (by simp <;> omega)).trans ((ZG (ZS (blk_new w _)) 2).trans rfl); have q3 : w1.cell? ⟨g, 0, none⟩ = some (.int .i64 n0) := (hc g 0 (by simp <;> omega)).trans (by go_simp); have q4 : w1.cell? ⟨g, 1, none⟩ = some (.int .i64 n1) := (hc g 1 (by simp <;> omega)).trans (by go_simp); clear hc hf; have HBB := ZM (ZW (below_drew (ZO (Below.refl w.heap.size w) _)) hb); clear hb))
    go_wp2
    refine bodyPost_ret (v := .tuple #[.int .i64 e0, .bool false]) (by simp [results, Tryd.results80, go_sem]) rfl ⟨by rw [show isAt ⟨e0, e1, e2⟩ n0 n1 = false from decide_eq_false (fun h => X.out h.1)], HBB.out⟩
set_option maxHeartbeats 4000000 in
set_option maxRecDepth 100000 in
theorem each_int (k : Nat) (A0 : Option Addr) (c0 : Nat) (l0 : List (S40)) (A1 : Option Addr) (c1 : Nat) (l1 : List (S42)) (n0 n1 : Int) (g : Nat) (r : List Int) (w : World)
    (hr1 : Kd.C k42 w A1 l1.length l1) (hg : w.heap[g]? = some (.cells #[.int .i64 n0, .int .i64 n1] 82 (0, 0))) (h : graph_Prev.l0 k l1 n0 n1 [] 0 = some r) :
    Calls Tryd.prog 79 #[.agg #[.slice A0 l0.length c0, .slice A1 l1.length c1], .func (.func 80) #[] #[.pointer (some ⟨g, 0, none⟩)]] w fun e w' => ∃ v0_ : Value, e = .returned (v0_) ∧ Kd.R (Kd.int .i64) 3 w' w.heap.size (fun _ => True) v0_ r ∧ Below w.heap.size w w' := by
  have hu30 := Tryd.underlying27
  have hu35 := Tryd.underlying42
  have hu23 := Tryd.underlying82
  have HR := ZM hr1
  have HG := ZM hg
  have H' := ZM h
  have HB := ZM (Below.refl w.heap.size w)
  clear hr1 hg h
  go_enter Tryd.func79, Tryd.ntmps79
  go_wp2_with (fail)
  go_loopg [5, 13] k (fun kq v5 v13 w' => ∃ (x5 : List Int) (i : Int), v13 = .int .i64 i ∧ Aside0 (graph_Prev.l0 kq l1 n0 n1 x5 i = some r) ∧ Aside0 (kq ≤ k) ∧ Aside0 (Kd.R (Kd.int .i64) 3 w' w.heap.size (fun _ => True) v5 x5) ∧ Aside0 (Below w.heap.size w w'))
  case atStart => exact ⟨[], 0, rfl, H', ⟨Nat.le_refl _⟩, ⟨Kd.R_nil _ _ _ _ _⟩, ⟨ZO HB.out _⟩⟩
  case round =>
    clear H' HB
    obtain ⟨x5, i, rfl, HA, HK1, HO, HB⟩ := hrel
    cases gk with
    | zero => exact absurd HA.out (by simp [graph_Prev.l0])
    | succ k1 =>
      have H := HA.out
      clear HA
      simp only [graph_Prev.l0] at H
      by_cases c6 : i < (l1.length : Int)
      · rw [if_pos c6] at H
        by_cases c7 : 0 ≤ i
        · rw [if_pos c7] at H
          have c6b0 : decide (i < (l1.length : Int)) = true := decide_eq_true c6
          have c7b0 : decide (0 ≤ i) = true := decide_eq_true c7
          obtain ⟨ad, e168, hx0, hx1, hx2⟩ := at_T42 HR.out i c7 c6
          cases e168
          replace hx0 := (HB.out.cell (ZC w _ hx0)).trans hx0
          replace hx1 := (HB.out.cell (ZC w _ hx1)).trans hx1
          replace hx2 := (HB.out.cell (ZC w _ hx2)).trans hx2
          have HH := ZM H
          clear H
          replace c6 := eq_true c6
          replace c7 := eq_true c7
          have HGr := ZM (blk_below HG.out HB.out)
          go_upto_region 5 with (fail)
          go_cut [8, 9] (fun v8 v9 wc => ∃ q : Bool, v8 = .int .i64 (rd_T42 l1 i).f0 ∧ v9 = .bool q ∧ Aside0 (q = isAt (rd_T42 l1 i) n0 n1) ∧ Aside0 (Below wr.heap.size wr wc))
          case first =>
            go_wp2_with (first | (go_at_call 80; (with_reducible refine (prev1_calls (rd_T42 l1 i).f0 (rd_T42 l1 i).f1 (rd_T42 l1 i).f2 n0 n1 g _ (ZT HGr.out _)).mono ?_); rintro e w1 ⟨rfl, hb⟩; have HBr := ZM (ZW (ZO (Below.refl wr.heap.size wr) _) hb); clear hb))
            go_meet
            case rel => exact ⟨_, rfl, rfl, ⟨rfl⟩, HBr⟩
          case rest =>
            obtain ⟨q, rfl, rfl, HQ, HBr⟩ := hcut
            have HO2 := ZM (Kd.R_below HO.out HBr.out)
            have HB2 := ZM (ZW HB.out HBr.out)
            clear HO HB hx0 hx1 hx2
            have H := HH.out
            clear HH
            by_cases c8 : (rd_T42 l1 i).f1 = n0 ∧ (rd_T42 l1 i).f2 = n1
            · rw [if_pos c8] at H
              obtain rfl : q = true := HQ.out.trans (decide_eq_true c8)
              clear c8
              by_cases c9 : x5.length < 17592186044416
              · rw [if_pos c9] at H
                have LM := ZM c9
                clear c9
                have H' := ZM H
                clear H
                go_wp2_with (at_builtin; have LM1 := LM.out; refine Kd.R_append (Kd.int .i64) (w0 := w) w.heap.size rfl (.tmp 24) (.tmp 26) 61 3 (.int .i64 0) 8 rfl Tryd.underlying61 info3 rfl (by decide) (by omega) u5 x5 ((rd_T42 l1 i).f0) [.int .i64 ((rd_T42 l1 i).f0)] (fun _ => True) (fun _ => False) rfl rfl ?aP (fun _ hk => hk.elim) ?aF ?aO ?aB ?aS ?aL ?_; (case aP => exact rfl); (case aB => exact HB2.out); (case aF => exact (fun _ _ => trivial)); (case aO => exact HO2.out); (case aS => exact ZV HB2.out); (case aL => omega); clear LM1; intro v146 w13 ho hb hg hat; have HO3 := ZM ho; have HB3 := ZM hb; clear ho hb hg hat)
                go_roundg k1
                case measure => have := HK1.out; omega
                case rel => exact ⟨_, _, rfl, H', ⟨by have := HK1.out; omega⟩, HO3, HB3⟩
              · rw [if_neg c9] at H
                exact absurd H (by simp)
            · rw [if_neg c8] at H
              obtain rfl : q = false := HQ.out.trans (decide_eq_false c8)
              clear c8
              have H' := ZM H
              clear H
              go_wp2
              go_roundg k1
              case measure => have := HK1.out; omega
              case rel => exact ⟨_, _, rfl, H', ⟨by have := HK1.out; omega⟩, HO2, HB2⟩
        · rw [if_neg c7] at H
          exact absurd H (by simp)
      · rw [if_neg c6] at H
        obtain rfl := Option.some.inj H
        have c6b0 : decide (i < (l1.length : Int)) = false := decide_eq_false c6
        clear c6
        obtain ⟨Ao, co, eo⟩ := Kd.R_slice HO.out
        subst eo
        go_wp2
        go_ret
        exact ⟨_, rfl, HO.out, HB.out⟩
set_option maxHeartbeats 8000000 in
set_option maxRecDepth 100000 in
theorem graph_Prev.calls (k : Nat) (A0_0 : Option Addr) (c0_0 : Nat) (l0_0 : List (S40)) (A0_1 : Option Addr) (c0_1 : Nat) (l0_1 : List (S42)) (a1_0 : Int) (a1_1 : Int) (r : List Int) (w : World) (hr0_0 : Kd.C k40 w A0_0 l0_0.length l0_0) (hc0_0 : l0_0.length ≤ c0_0) (hr0_1 : Kd.C k42 w A0_1 l0_1.length l0_1) (hc0_1 : l0_1.length ≤ c0_1) (h : graph_Prev.f k l0_0 l0_1 a1_0 a1_1 = some r) :
    Calls Tryd.prog 59 #[.agg #[.slice A0_0 l0_0.length c0_0, .slice A0_1 l0_1.length c0_1], .agg #[.int .i64 a1_0, .int .i64 a1_1]] w fun e w' => ∃ v0_ : Value, e = .returned (v0_) ∧ Kd.R (Kd.int .i64) 3 w' w.heap.size (fun _ => True) v0_ r ∧ Below w.heap.size w w' := by
  have hu30 := Tryd.underlying27
  have HR := ZM hr0_1
  have H' := ZM (show graph_Prev.l0 k l0_1 a1_0 a1_1 [] 0 = some r from h)
  clear hr0_0 hc0_0 hr0_1 hc0_1 h
  have BK := ZM (show ((w.alloc (.cells #[.slice A0_0 l0_0.length c0_0, .slice A0_1 l0_1.length c0_1] 27)).alloc (.cells #[.int .i64 a1_0, .int .i64 a1_1] 82)).heap[w.heap.size + 1]? = some (.cells #[.int .i64 a1_0, .int .i64 a1_1] 82 (0, 0)) from by
    have := blk_new (w.alloc (.cells #[.slice A0_0 l0_0.length c0_0, .slice A0_1 l0_1.length c0_1] 27)) (.cells #[.int .i64 a1_0, .int .i64 a1_1] 82); simpa using this)
  have HB := ZM (ZO (ZO (Below.refl w.heap.size w) (.cells #[.slice A0_0 l0_0.length c0_0, .slice A0_1 l0_1.length c0_1] 27)) (.cells #[.int .i64 a1_0, .int .i64 a1_1] 82))
  go_enter Tryd.func59, Tryd.ntmps59
  go_wp2_with (first | (go_at_call 79; (with_reducible refine (each_int k A0_0 c0_0 l0_0 A0_1 c0_1 l0_1 a1_0 a1_1 (w.heap.size + 1) r _ (Kd.C_below HR.out HB.out) BK.out H'.out).mono ?_); rintro e w1 ⟨v0, rfl, ho, hb⟩; have HO := ZM (Kd.R_lower ho (ZV HB.out)); have HB1 := ZM (ZW HB.out hb); clear ho hb))
  go_ret
  exact ⟨_, rfl, HO.out, HB1.out⟩

/-! ### cmp_Or_int: function 93 -/
def cmp_Or_int.l0 : Nat → Int → List Int → Int → Int → Option (Int)
 | 0, _, _, _, _ => none
 | k + 1, x3, x6, x7, x8 => if x8 < x7 then (if 0 ≤ x8 then (if x8 < (x6.length : Int) then (if (rd x6 x8) = x3 then (cmp_Or_int.l0 k x3 x6 x7 (wrap64 (x8 + 1))) else (some (rd x6 x8))) else (none)) else (none)) else (some x3)
def cmp_Or_int.f (k : Nat) (l0 : List Int) : Option (Int) := cmp_Or_int.l0 k 0 l0 (l0.length : Int) 0
theorem cmp_Or_int.mono_l : ∀ k, (∀ y0 y1 y2 y3, LeO (cmp_Or_int.l0 k y0 y1 y2 y3) (cmp_Or_int.l0 (k + 1) y0 y1 y2 y3))
 | 0 => fun _ _ _ _ r h => by simp [cmp_Or_int.l0] at h
 | k + 1 => by
  have ih0 := cmp_Or_int.mono_l k
  ·intro y0 y1 y2 y3
   unfold cmp_Or_int.l0
   repeat' first
   | (with_reducible exact ih0 _ _ _ _)
   | (with_reducible exact LeO.refl _)
   | (with_reducible exact LeO.none _)
   | (with_reducible refine LeO.ite ?_ ?_)
   | (with_reducible refine LeO.bind ?_ (fun _ => ?_))
   | exact ih0 _ _ _ _
   | exact LeO.none _
   | refine LeO.ite ?_ ?_
   | refine LeO.bind ?_ (fun _ => ?_)
theorem cmp_Or_int.mono : ∀ a0 k, LeO (cmp_Or_int.f k a0) (cmp_Or_int.f (k + 1) a0) := by
 intro a0 k
 have ih0 := cmp_Or_int.mono_l k
 unfold cmp_Or_int.f
 repeat' first
   | (with_reducible exact ih0 _ _ _ _)
   | (with_reducible exact LeO.refl _)
   | (with_reducible exact LeO.none _)
   | (with_reducible refine LeO.ite ?_ ?_)
   | (with_reducible refine LeO.bind ?_ (fun _ => ?_))
   | exact ih0 _ _ _ _
   | exact LeO.none _
   | refine LeO.ite ?_ ?_
   | refine LeO.bind ?_ (fun _ => ?_)
set_option maxHeartbeats 8000000 in
set_option maxRecDepth 100000 in
theorem cmp_Or_int.calls (k : Nat) (A0 : Option Addr) (c0 : Nat) (l0 : List Int) (r : Int) (w : World) (hr0 : Kd.C (Kd.int .i64) w A0 l0.length l0) (hc0 : l0.length ≤ c0) (h : cmp_Or_int.f k l0 = some r) :
  Calls Tryd.prog 93 #[.slice A0 l0.length c0] w fun e w' => e = .returned (.int .i64 r) ∧ Drawn0 w w' := by
 have HR0 := ZM hr0
 have HC0 := ZM hc0
 clear hr0 hc0
 have H : (cmp_Or_int.l0 k 0 l0 (l0.length : Int) 0) = some r := h
 clear h
 have H' := ZM H
 clear H
 go_enter Tryd.func93, Tryd.ntmps93
 go_wp2
 go_loopg [8] k (fun kq v8 w' => ∃ (x8_1 : Int), v8 = .int .i64 x8_1 ∧ Aside0 (cmp_Or_int.l0 kq 0 l0 (l0.length : Int) x8_1 = some r) ∧ Aside0 (kq ≤ k) ∧ Drawn0 w w')
 case atStart => exact ⟨(0), ZE, H', ⟨Nat.le_refl _⟩, ZD⟩
 case round =>
  clear H'
  obtain ⟨x8_1, rfl, HA, HK1, ⟨m1, rfl⟩⟩ := hrel
  cases gk with
  | zero => exact absurd HA.out (by simp [cmp_Or_int.l0])
  | succ k1 =>
   have H := HA.out
   clear HA
   simp only [cmp_Or_int.l0] at H
   by_cases c2 : x8_1 < (l0.length : Int)
   ·rw [if_pos c2] at H
    have c2b0 : decide (x8_1 < (l0.length : Int)) = true := decide_eq_true c2
    clear c2
    by_cases c3 : 0 ≤ x8_1
    case neg =>
     rw [if_neg c3] at H
     exact absurd H (by simp)
    rw [if_pos c3] at H
    have c3b0 : decide (0 ≤ x8_1) = true := decide_eq_true c3
    clear c3
    by_cases c4 : x8_1 < (l0.length : Int)
    case neg =>
     rw [if_neg c4] at H
     exact absurd H (by simp)
    rw [if_pos c4] at H
    have c4b0 : decide (x8_1 < (l0.length : Int)) = true := decide_eq_true c4
    clear c4
    by_cases c5 : (rd l0 x8_1) = 0
    ·rw [if_pos c5] at H
     have c5b0 : ((rd l0 x8_1) == 0) = true := beq_iff_eq.mpr c5
     have c5b1 : ((rd l0 x8_1) != 0) = false := bne_eq_false_iff_eq.mpr c5
     clear c5
     have H' := ZM H
     clear H
     have p151 : 0 ≤ (x8_1 : Int) := ZOD
     have q151 : x8_1 < (l0.length : Int) := ZOD
     obtain ⟨ad151, e151, hx151_0⟩ := Kd.at_int HR0.out x8_1 p151 q151
     cases e151
     replace p151 := eq_true p151
     replace q151 := eq_true q151
     go_wp2
     go_roundg k1
     case measure => have := HK1.out; omega
     case rel => exact ⟨(wrap64 (x8_1 + 1)), ZE, H', ⟨by have := HK1.out; omega⟩, ZD⟩
    ·rw [if_neg c5] at H
     have c5b0 : ((rd l0 x8_1) == 0) = false := beq_eq_false_iff_ne.mpr c5
     have c5b1 : ((rd l0 x8_1) != 0) = true := bne_iff_ne.mpr c5
     obtain rfl := Option.some.inj H
     have p151 : 0 ≤ (x8_1 : Int) := ZOD
     have q151 : x8_1 < (l0.length : Int) := ZOD
     obtain ⟨ad151, e151, hx151_0⟩ := Kd.at_int HR0.out x8_1 p151 q151
     cases e151
     replace p151 := eq_true p151
     replace q151 := eq_true q151
     go_wp2
     go_ret
     exact ⟨ZE, ZD⟩
   ·rw [if_neg c2] at H
    have c2b0 : decide (x8_1 < (l0.length : Int)) = false := decide_eq_false c2
    clear c2
    obtain rfl := Option.some.inj H
    go_wp2
    go_ret
    exact ⟨ZE, ZD⟩

/-! ### cmp_isNaN_int: function 97 -/
def cmp_isNaN_int.f (a0 : Int) : Option (Bool) := some (a0 != a0)
set_option maxHeartbeats 8000000 in
set_option maxRecDepth 100000 in
theorem cmp_isNaN_int.calls (a0 : Int) (r : Bool) (w : World) (h : cmp_isNaN_int.f a0 = some r) :
  Calls Tryd.prog 97 #[.int .i64 a0] w fun e w' => e = .returned (.bool r) ∧ Drawn0 w w' := by
 have H : (some (a0 != a0)) = some r := h
 clear h
 obtain rfl := Option.some.inj H
 go_enter Tryd.func97, Tryd.ntmps97
 go_wp2
 go_ret
 exact ⟨ZE, ZD⟩

/-! ### cmp_Compare_int: function 94 -/
def cmp_Compare_int.f (a0 : Int) (a1 : Int) : Option (Int) := (cmp_isNaN_int.f a0).bind fun t152 => ((cmp_isNaN_int.f a1).bind fun t153 => (if t152 = true then (if t153 = true then (some 0) else (some (-1))) else (if t153 = true then (some 1) else (if a0 < a1 then (some (-1)) else (if a0 > a1 then (some 1) else (some 0))))))
set_option maxHeartbeats 8000000 in
set_option maxRecDepth 100000 in
theorem cmp_Compare_int.calls (a0 : Int) (a1 : Int) (r : Int) (w : World) (h : cmp_Compare_int.f a0 a1 = some r) :
  Calls Tryd.prog 94 #[.int .i64 a0, .int .i64 a1] w fun e w' => e = .returned (.int .i64 r) ∧ Drawn0 w w' := by
 have H : ((cmp_isNaN_int.f a0).bind fun t152 => ((cmp_isNaN_int.f a1).bind fun t153 => (if t152 = true then (if t153 = true then (some 0) else (some (-1))) else (if t153 = true then (some 1) else (if a0 < a1 then (some (-1)) else (if a0 > a1 then (some 1) else (some 0))))))) = some r := h
 clear h
 replace H := Option.bind_eq_some_iff.mp H
 obtain ⟨t152, A30, H⟩ := H
 replace H : ((cmp_isNaN_int.f a1).bind fun t153 => (if t152 = true then (if t153 = true then (some 0) else (some (-1))) else (if t153 = true then (some 1) else (if a0 < a1 then (some (-1)) else (if a0 > a1 then (some 1) else (some 0)))))) = some r := H
 have A3 := ZM A30
 clear A30
 replace H := Option.bind_eq_some_iff.mp H
 obtain ⟨t153, A40, H⟩ := H
 replace H : (if t152 = true then (if t153 = true then (some 0) else (some (-1))) else (if t153 = true then (some 1) else (if a0 < a1 then (some (-1)) else (if a0 > a1 then (some 1) else (some 0))))) = some r := H
 have A4 := ZM A40
 clear A40
 by_cases c5 : t152 = true
 ·subst c5
  have H1 : (if t153 = true then (some 0) else (some (-1))) = some r := by rw [if_pos rfl] at H; exact H
  clear H
  have H := H1
  clear H1
  by_cases c6 : t153 = true
  ·subst c6
   have H1 : (some 0) = some r := by rw [if_pos rfl] at H; exact H
   clear H
   have H := H1
   clear H1
   obtain rfl := Option.some.inj H
   go_enter Tryd.func94, Tryd.ntmps94
   go_wp2_with (first | ((with_reducible refine gate_callee (f := 97) rfl ?_); refine goesL_ (some 8) rfl rfl Tryd.func97 (by kernel_rfl) rfl #[.int .i64 a0] rfl ZH ?_; (with_reducible refine (cmp_isNaN_int.calls a0 true _ A3.out).mono ?_); rintro e w' ⟨rfl, ⟨nd, rfl⟩⟩; refine ⟨_, rfl, ?_⟩) | ((with_reducible refine gate_callee (f := 97) rfl ?_); refine goesL_ (some 10) rfl rfl Tryd.func97 (by kernel_rfl) rfl #[.int .i64 a1] rfl ZH ?_; (with_reducible refine (cmp_isNaN_int.calls a1 true _ A4.out).mono ?_); rintro e w' ⟨rfl, ⟨nd, rfl⟩⟩; refine ⟨_, rfl, ?_⟩))
   go_ret
   exact ⟨ZE, ZD⟩
  ·replace c6 := Bool.eq_false_iff.mpr c6
   subst c6
   have H1 : (some (-1)) = some r := by rw [if_neg (show ¬ (false = true) by decide)] at H; exact H
   clear H
   have H := H1
   clear H1
   obtain rfl := Option.some.inj H
   go_enter Tryd.func94, Tryd.ntmps94
   go_wp2_with (first | ((with_reducible refine gate_callee (f := 97) rfl ?_); refine goesL_ (some 8) rfl rfl Tryd.func97 (by kernel_rfl) rfl #[.int .i64 a0] rfl ZH ?_; (with_reducible refine (cmp_isNaN_int.calls a0 true _ A3.out).mono ?_); rintro e w' ⟨rfl, ⟨nd, rfl⟩⟩; refine ⟨_, rfl, ?_⟩) | ((with_reducible refine gate_callee (f := 97) rfl ?_); refine goesL_ (some 10) rfl rfl Tryd.func97 (by kernel_rfl) rfl #[.int .i64 a1] rfl ZH ?_; (with_reducible refine (cmp_isNaN_int.calls a1 false _ A4.out).mono ?_); rintro e w' ⟨rfl, ⟨nd, rfl⟩⟩; refine ⟨_, rfl, ?_⟩))
   go_ret
   exact ⟨ZE, ZD⟩
 ·replace c5 := Bool.eq_false_iff.mpr c5
  subst c5
  have H1 : (if t153 = true then (some 1) else (if a0 < a1 then (some (-1)) else (if a0 > a1 then (some 1) else (some 0)))) = some r := by rw [if_neg (show ¬ (false = true) by decide)] at H; exact H
  clear H
  have H := H1
  clear H1
  by_cases c7 : t153 = true
  ·subst c7
   have H1 : (some 1) = some r := by rw [if_pos rfl] at H; exact H
   clear H
   have H := H1
   clear H1
   obtain rfl := Option.some.inj H
   go_enter Tryd.func94, Tryd.ntmps94
   go_wp2_with (first | ((with_reducible refine gate_callee (f := 97) rfl ?_); refine goesL_ (some 8) rfl rfl Tryd.func97 (by kernel_rfl) rfl #[.int .i64 a0] rfl ZH ?_; (with_reducible refine (cmp_isNaN_int.calls a0 false _ A3.out).mono ?_); rintro e w' ⟨rfl, ⟨nd, rfl⟩⟩; refine ⟨_, rfl, ?_⟩) | ((with_reducible refine gate_callee (f := 97) rfl ?_); refine goesL_ (some 10) rfl rfl Tryd.func97 (by kernel_rfl) rfl #[.int .i64 a1] rfl ZH ?_; (with_reducible refine (cmp_isNaN_int.calls a1 true _ A4.out).mono ?_); rintro e w' ⟨rfl, ⟨nd, rfl⟩⟩; refine ⟨_, rfl, ?_⟩))
   go_ret
   exact ⟨ZE, ZD⟩
  ·replace c7 := Bool.eq_false_iff.mpr c7
   subst c7
   have H1 : (if a0 < a1 then (some (-1)) else (if a0 > a1 then (some 1) else (some 0))) = some r := by rw [if_neg (show ¬ (false = true) by decide)] at H; exact H
   clear H
   have H := H1
   clear H1
   by_cases c8 : a0 < a1
   ·rw [if_pos c8] at H
    have c8b0 : decide (a0 < a1) = true := decide_eq_true c8
    clear c8
    obtain rfl := Option.some.inj H
    go_enter Tryd.func94, Tryd.ntmps94
    go_wp2_with (first | ((with_reducible refine gate_callee (f := 97) rfl ?_); refine goesL_ (some 8) rfl rfl Tryd.func97 (by kernel_rfl) rfl #[.int .i64 a0] rfl ZH ?_; (with_reducible refine (cmp_isNaN_int.calls a0 false _ A3.out).mono ?_); rintro e w' ⟨rfl, ⟨nd, rfl⟩⟩; refine ⟨_, rfl, ?_⟩) | ((with_reducible refine gate_callee (f := 97) rfl ?_); refine goesL_ (some 10) rfl rfl Tryd.func97 (by kernel_rfl) rfl #[.int .i64 a1] rfl ZH ?_; (with_reducible refine (cmp_isNaN_int.calls a1 false _ A4.out).mono ?_); rintro e w' ⟨rfl, ⟨nd, rfl⟩⟩; refine ⟨_, rfl, ?_⟩))
    go_ret
    exact ⟨ZE, ZD⟩
   ·rw [if_neg c8] at H
    have c8b0 : decide (a0 < a1) = false := decide_eq_false c8
    clear c8
    by_cases c9 : a0 > a1
    ·rw [if_pos c9] at H
     have c9b0 : decide (a1 < a0) = true := decide_eq_true c9
     clear c9
     obtain rfl := Option.some.inj H
     go_enter Tryd.func94, Tryd.ntmps94
     go_wp2_with (first | ((with_reducible refine gate_callee (f := 97) rfl ?_); refine goesL_ (some 8) rfl rfl Tryd.func97 (by kernel_rfl) rfl #[.int .i64 a0] rfl ZH ?_; (with_reducible refine (cmp_isNaN_int.calls a0 false _ A3.out).mono ?_); rintro e w' ⟨rfl, ⟨nd, rfl⟩⟩; refine ⟨_, rfl, ?_⟩) | ((with_reducible refine gate_callee (f := 97) rfl ?_); refine goesL_ (some 10) rfl rfl Tryd.func97 (by kernel_rfl) rfl #[.int .i64 a1] rfl ZH ?_; (with_reducible refine (cmp_isNaN_int.calls a1 false _ A4.out).mono ?_); rintro e w' ⟨rfl, ⟨nd, rfl⟩⟩; refine ⟨_, rfl, ?_⟩))
     go_ret
     exact ⟨ZE, ZD⟩
    ·rw [if_neg c9] at H
     have c9b0 : decide (a1 < a0) = false := decide_eq_false c9
     clear c9
     obtain rfl := Option.some.inj H
     go_enter Tryd.func94, Tryd.ntmps94
     go_wp2_with (first | ((with_reducible refine gate_callee (f := 97) rfl ?_); refine goesL_ (some 8) rfl rfl Tryd.func97 (by kernel_rfl) rfl #[.int .i64 a0] rfl ZH ?_; (with_reducible refine (cmp_isNaN_int.calls a0 false _ A3.out).mono ?_); rintro e w' ⟨rfl, ⟨nd, rfl⟩⟩; refine ⟨_, rfl, ?_⟩) | ((with_reducible refine gate_callee (f := 97) rfl ?_); refine goesL_ (some 10) rfl rfl Tryd.func97 (by kernel_rfl) rfl #[.int .i64 a1] rfl ZH ?_; (with_reducible refine (cmp_isNaN_int.calls a1 false _ A4.out).mono ?_); rintro e w' ⟨rfl, ⟨nd, rfl⟩⟩; refine ⟨_, rfl, ?_⟩))
     go_ret
     exact ⟨ZE, ZD⟩

end Go.Proofs.YtbjjcolbomaodaaDoor.PTks
