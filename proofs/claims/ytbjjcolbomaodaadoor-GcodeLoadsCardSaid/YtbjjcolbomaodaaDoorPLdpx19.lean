-- Laid by hprint.py of this repo: the kit's printer, and contracts by hand beside it. Not trusted: Lean checks it.
import Derived.Test.YtbjjcolbomaodaaDoorWZ
import Derived.Test.YtbjjcolbomaodaaDoorPLdpx0
import Derived.Test.YtbjjcolbomaodaaDoorPLdpx13
import Derived.Test.YtbjjcolbomaodaaDoorPLdpx15
import Derived.Test.YtbjjcolbomaodaaDoorPLdpx17
import Derived.Test.YtbjjcolbomaodaaDoorPLdpx18
namespace Go.Proofs.YtbjjcolbomaodaaDoor.PLdp
open Go.RowKit Go.Proofs.YtbjjcolbomaodaaDoorW.PrintWords Go.Proofs.YtbjjcolbomaodaaDoorW.PrintLast Go.Proofs.YtbjjcolbomaodaaDoorW.PrintMore
attribute [local go_sem] max2_int min2_int max_two min_two max_three min_three max_four min_four   -- for this text's walks alone
set_option linter.unusedVariables false
set_option linter.unusedSimpArgs false

/-! ### meanderref09_Graph: function 15 -/
mutual
def meanderref09_Graph.j0 : Nat → Bool → List (S40) → List (S42) → Option (Int)
 | 0, _, _, _ => none
 | k + 1, x22, x275000, x275001 => if x22 = true then (some 3) else (meanderref09_Graph.l0 k 0 x275000 x275001)
def meanderref09_Graph.l0 : Nat → Int → List (S40) → List (S42) → Option (Int)
 | 0, _, _, _ => none
 | k + 1, x3, x275000, x275001 => if x3 < (x275000.length : Int) then (if 0 ≤ x3 then ((meanderref09_Node.f k ((rd_T40 x275000 x3).f0) ((rd_T40 x275000 x3).f1) ((rd_T40 x275000 x3).f2) ((rd_T40 x275000 x3).f3)).bind fun t276 => (if t276 = true then (meanderref09_Graph.l0 k (wrap64 (x3 + 1)) x275000 x275001) else (some 10))) else (none)) else ((meanderref09_edges.f k x275000 x275001).bind fun t277 => (if t277 = 0 then ((meanderref09_ports.f k x275000 x275001).bind fun t278 => (meanderref09_Graph.j2 k t278 x275000 x275001)) else (meanderref09_Graph.j2 k t277 x275000 x275001)))
def meanderref09_Graph.j2 : Nat → Int → List (S40) → List (S42) → Option (Int)
 | 0, _, _, _ => none
 | k + 1, x5, x275000, x275001 => if x5 = 0 then (meanderref09_Graph.l1 k 0 x275000 x275001) else (some x5)
def meanderref09_Graph.l1 : Nat → Int → List (S40) → List (S42) → Option (Int)
 | 0, _, _, _ => none
 | k + 1, x6, x275000, x275001 => if x6 < (x275000.length : Int) then (if 0 ≤ x6 then (if ((rd_T40 x275000 x6).f0) = 10 then (meanderref09_Graph.l1 k (wrap64 (x6 + 1)) x275000 x275001) else ((meanderref09_round.f k x275000 x275001 x6).bind fun t280 => (if t280 = true then (some 14) else (meanderref09_Graph.l1 k (wrap64 (x6 + 1)) x275000 x275001)))) else (none)) else (some 0)
end
def meanderref09_Graph.f (k : Nat) (l0_0 : List (S40)) (l0_1 : List (S42)) : Option (Int) := if (l0_0.length : Int) < 1 then (meanderref09_Graph.j0 k true l0_0 l0_1) else (if (l0_0.length : Int) > 12 then (meanderref09_Graph.j0 k true l0_0 l0_1) else (meanderref09_Graph.j0 k (decide ((l0_1.length : Int) > 24)) l0_0 l0_1))
theorem meanderref09_Graph.mono_l : ∀ k, (∀ y0 y1 y2, LeO (meanderref09_Graph.j0 k y0 y1 y2) (meanderref09_Graph.j0 (k + 1) y0 y1 y2)) ∧ (∀ y0 y1 y2, LeO (meanderref09_Graph.l0 k y0 y1 y2) (meanderref09_Graph.l0 (k + 1) y0 y1 y2)) ∧ (∀ y0 y1 y2, LeO (meanderref09_Graph.j2 k y0 y1 y2) (meanderref09_Graph.j2 (k + 1) y0 y1 y2)) ∧ (∀ y0 y1 y2, LeO (meanderref09_Graph.l1 k y0 y1 y2) (meanderref09_Graph.l1 (k + 1) y0 y1 y2))
 | 0 => ⟨fun _ _ _ r h => by simp [meanderref09_Graph.j0] at h, fun _ _ _ r h => by simp [meanderref09_Graph.l0] at h, fun _ _ _ r h => by simp [meanderref09_Graph.j2] at h, fun _ _ _ r h => by simp [meanderref09_Graph.l1] at h⟩
 | k + 1 => by
  obtain ⟨ih0, ih1, ih2, ih3⟩ := meanderref09_Graph.mono_l k
  refine ⟨?_, ?_, ?_, ?_⟩
  ·intro y0 y1 y2
   unfold meanderref09_Graph.j0
   repeat' first
   | (with_reducible exact ih0 _ _ _)
   | (with_reducible exact ih1 _ _ _)
   | (with_reducible exact ih2 _ _ _)
   | (with_reducible exact ih3 _ _ _)
   | (with_reducible exact meanderref09_Node.mono _ _ _ _ _)
   | (with_reducible exact meanderref09_edges.mono _ _ _)
   | (with_reducible exact meanderref09_ports.mono _ _ _)
   | (with_reducible exact meanderref09_round.mono _ _ _ _)
   | (with_reducible exact LeO.refl _)
   | (with_reducible exact LeO.none _)
   | (with_reducible refine LeO.ite ?_ ?_)
   | (with_reducible refine LeO.bind ?_ (fun _ => ?_))
   | exact ih0 _ _ _
   | exact ih1 _ _ _
   | exact ih2 _ _ _
   | exact ih3 _ _ _
   | exact meanderref09_Node.mono _ _ _ _ _
   | exact meanderref09_edges.mono _ _ _
   | exact meanderref09_ports.mono _ _ _
   | exact meanderref09_round.mono _ _ _ _
   | exact LeO.none _
   | refine LeO.ite ?_ ?_
   | refine LeO.bind ?_ (fun _ => ?_)
  ·intro y0 y1 y2
   unfold meanderref09_Graph.l0
   repeat' first
   | (with_reducible exact ih0 _ _ _)
   | (with_reducible exact ih1 _ _ _)
   | (with_reducible exact ih2 _ _ _)
   | (with_reducible exact ih3 _ _ _)
   | (with_reducible exact meanderref09_Node.mono _ _ _ _ _)
   | (with_reducible exact meanderref09_edges.mono _ _ _)
   | (with_reducible exact meanderref09_ports.mono _ _ _)
   | (with_reducible exact meanderref09_round.mono _ _ _ _)
   | (with_reducible exact LeO.refl _)
   | (with_reducible exact LeO.none _)
   | (with_reducible refine LeO.ite ?_ ?_)
   | (with_reducible refine LeO.bind ?_ (fun _ => ?_))
   | exact ih0 _ _ _
   | exact ih1 _ _ _
   | exact ih2 _ _ _
   | exact ih3 _ _ _
   | exact meanderref09_Node.mono _ _ _ _ _
   | exact meanderref09_edges.mono _ _ _
   | exact meanderref09_ports.mono _ _ _
   | exact meanderref09_round.mono _ _ _ _
   | exact LeO.none _
   | refine LeO.ite ?_ ?_
   | refine LeO.bind ?_ (fun _ => ?_)
  ·intro y0 y1 y2
   unfold meanderref09_Graph.j2
   repeat' first
   | (with_reducible exact ih0 _ _ _)
   | (with_reducible exact ih1 _ _ _)
   | (with_reducible exact ih2 _ _ _)
   | (with_reducible exact ih3 _ _ _)
   | (with_reducible exact meanderref09_Node.mono _ _ _ _ _)
   | (with_reducible exact meanderref09_edges.mono _ _ _)
   | (with_reducible exact meanderref09_ports.mono _ _ _)
   | (with_reducible exact meanderref09_round.mono _ _ _ _)
   | (with_reducible exact LeO.refl _)
   | (with_reducible exact LeO.none _)
   | (with_reducible refine LeO.ite ?_ ?_)
   | (with_reducible refine LeO.bind ?_ (fun _ => ?_))
   | exact ih0 _ _ _
   | exact ih1 _ _ _
   | exact ih2 _ _ _
   | exact ih3 _ _ _
   | exact meanderref09_Node.mono _ _ _ _ _
   | exact meanderref09_edges.mono _ _ _
   | exact meanderref09_ports.mono _ _ _
   | exact meanderref09_round.mono _ _ _ _
   | exact LeO.none _
   | refine LeO.ite ?_ ?_
   | refine LeO.bind ?_ (fun _ => ?_)
  ·intro y0 y1 y2
   unfold meanderref09_Graph.l1
   repeat' first
   | (with_reducible exact ih0 _ _ _)
   | (with_reducible exact ih1 _ _ _)
   | (with_reducible exact ih2 _ _ _)
   | (with_reducible exact ih3 _ _ _)
   | (with_reducible exact meanderref09_Node.mono _ _ _ _ _)
   | (with_reducible exact meanderref09_edges.mono _ _ _)
   | (with_reducible exact meanderref09_ports.mono _ _ _)
   | (with_reducible exact meanderref09_round.mono _ _ _ _)
   | (with_reducible exact LeO.refl _)
   | (with_reducible exact LeO.none _)
   | (with_reducible refine LeO.ite ?_ ?_)
   | (with_reducible refine LeO.bind ?_ (fun _ => ?_))
   | exact ih0 _ _ _
   | exact ih1 _ _ _
   | exact ih2 _ _ _
   | exact ih3 _ _ _
   | exact meanderref09_Node.mono _ _ _ _ _
   | exact meanderref09_edges.mono _ _ _
   | exact meanderref09_ports.mono _ _ _
   | exact meanderref09_round.mono _ _ _ _
   | exact LeO.none _
   | refine LeO.ite ?_ ?_
   | refine LeO.bind ?_ (fun _ => ?_)
theorem meanderref09_Graph.mono : ∀ a0 a1 k, LeO (meanderref09_Graph.f k a0 a1) (meanderref09_Graph.f (k + 1) a0 a1) := by
 intro a0 a1 k
 obtain ⟨ih0, ih1, ih2, ih3⟩ := meanderref09_Graph.mono_l k
 unfold meanderref09_Graph.f
 repeat' first
   | (with_reducible exact ih0 _ _ _)
   | (with_reducible exact ih1 _ _ _)
   | (with_reducible exact ih2 _ _ _)
   | (with_reducible exact ih3 _ _ _)
   | (with_reducible exact meanderref09_Node.mono _ _ _ _ _)
   | (with_reducible exact meanderref09_edges.mono _ _ _)
   | (with_reducible exact meanderref09_ports.mono _ _ _)
   | (with_reducible exact meanderref09_round.mono _ _ _ _)
   | (with_reducible exact LeO.refl _)
   | (with_reducible exact LeO.none _)
   | (with_reducible refine LeO.ite ?_ ?_)
   | (with_reducible refine LeO.bind ?_ (fun _ => ?_))
   | exact ih0 _ _ _
   | exact ih1 _ _ _
   | exact ih2 _ _ _
   | exact ih3 _ _ _
   | exact meanderref09_Node.mono _ _ _ _ _
   | exact meanderref09_edges.mono _ _ _
   | exact meanderref09_ports.mono _ _ _
   | exact meanderref09_round.mono _ _ _ _
   | exact LeO.none _
   | refine LeO.ite ?_ ?_
   | refine LeO.bind ?_ (fun _ => ?_)
set_option maxHeartbeats 8000000 in
set_option maxRecDepth 100000 in
theorem meanderref09_Graph.calls (k : Nat) (A0_0 : Option Addr) (c0_0 : Nat) (l0_0 : List (S40)) (A0_1 : Option Addr) (c0_1 : Nat) (l0_1 : List (S42)) (r : Int) (w : World) (hr0_0 : Kd.C k40 w A0_0 l0_0.length l0_0) (hc0_0 : l0_0.length ≤ c0_0) (hr0_1 : Kd.C k42 w A0_1 l0_1.length l0_1) (hc0_1 : l0_1.length ≤ c0_1) (h : meanderref09_Graph.f k l0_0 l0_1 = some r) :
  Calls Tryd.prog 15 #[.agg #[.slice A0_0 l0_0.length c0_0, .slice A0_1 l0_1.length c0_1]] w fun e w' => e = .returned (.int .i64 r) ∧ Below w.heap.size w w' := by
 have hu27 := Tryd.underlying27
 have hu40 := Tryd.underlying40
 have HR0_0 := ZM hr0_0
 have HC0_0 := ZM hc0_0
 clear hr0_0 hc0_0
 have HR0_1 := ZM hr0_1
 have HC0_1 := ZM hc0_1
 clear hr0_1 hc0_1
 have HB := ZM (Below.refl w.heap.size w)
 have H : (if (l0_0.length : Int) < 1 then (meanderref09_Graph.j0 k true l0_0 l0_1) else (if (l0_0.length : Int) > 12 then (meanderref09_Graph.j0 k true l0_0 l0_1) else (meanderref09_Graph.j0 k (decide ((l0_1.length : Int) > 24)) l0_0 l0_1))) = some r := h
 clear h
 have HC2 := ZM H
 clear H
 go_enter Tryd.func15, Tryd.ntmps15
 go_upto_region 1 with (first | ((with_reducible refine gate_dst (N := 1) rfl ?_); (try (refine gate_guard (by rfl) ?_; dsimp only)); refine box_event ?hg (N := 1) ?hd (cs := #[.slice A0_0 l0_0.length c0_0, .slice A0_1 l0_1.length c0_1]) (t := 27) ?hr ?_; (case hd => rfl); (case hg => rfl); (case hr => first | (go_simp; done) | (go_simp; rfl)); intro gb274 hg w3 hbox hb; have n0_ := ZM (ZW (ZBB HB.out) hb); have n1_ := ZM (hbox); have n2_ := ZM ((by rw [hg]; exact (ZV (ZBB HB.out)) : w.heap.size ≤ gb274)); have n3_ := ZM ((by rw [hg]; exact (ZV (ZBB HB.out)) : w.heap.size ≤ gb274)); clear HB; have HB := n0_; have BK274 := n1_; have GW274 := n2_; have GE274 := n3_; clear n0_ n1_ n2_ n3_; clear hb hbox hg))
 (try simp only [Act.put, ZI, ZJ, ZK])
 go_cut [22] (fun v22 wc => ∃ (kq : Nat) (x22_1 : Bool), v22 = .bool x22_1 ∧ Aside0 (meanderref09_Graph.j0 kq x22_1 l0_0 l0_1 = some r) ∧ Aside0 (kq ≤ k) ∧ Aside0 (wc.heap[gb274]? = some (.cells #[(.slice A0_0 l0_0.length c0_0), (.slice A0_1 l0_1.length c0_1)] 27 (0, 0))) ∧ Aside0 (Below w.heap.size w wc))
 case first =>
  have H := HC2.out
  clear HC2
  by_cases c4 : (l0_0.length : Int) < 1
  ·rw [if_pos c4] at H
   have c4b0 : decide ((l0_0.length : Int) < 1) = true := decide_eq_true c4
   have c4b1 : decide (l0_0.length < 1) = true := decide_eq_true (by omega)
   clear c4
   (first | rw [c4b0] | (simp only [i64_w, i32_w]; rw [c4b0]) | skip)
   have H' := ZM H
   clear H
   have hcz5_0 : w3.cell? ⟨gb274, 0, none⟩ = some (.slice A0_0 l0_0.length c0_0) := (ZG BK274.out 0).trans rfl
   have hcz5_1 : w3.cell? ⟨gb274, 1, none⟩ = some (.slice A0_1 l0_1.length c0_1) := (ZG BK274.out 1).trans rfl
   have hfz5_0 := ZF BK274.out 0
   have hfz5_1 := ZF BK274.out 1
   go_wp2
   go_meet
   case rel => exact ⟨_, (true), (by first | rfl | (simp; done) | (simp [*]; done)), H', ⟨by first | omega | exact Nat.le_refl _⟩, ⟨ZBK BK274.out⟩, ⟨ZBB HB.out⟩⟩
  ·rw [if_neg c4] at H
   have c4b0 : decide ((l0_0.length : Int) < 1) = false := decide_eq_false c4
   have c4b1 : decide (l0_0.length < 1) = false := decide_eq_false (by omega)
   clear c4
   (first | rw [c4b0] | (simp only [i64_w, i32_w]; rw [c4b0]) | skip)
   by_cases c6 : (l0_0.length : Int) > 12
   ·rw [if_pos c6] at H
    have c6b0 : decide (12 < (l0_0.length : Int)) = true := decide_eq_true c6
    have c6b1 : decide (12 < l0_0.length) = true := decide_eq_true (by omega)
    clear c6
    have H' := ZM H
    clear H
    have hcz7_0 : w3.cell? ⟨gb274, 0, none⟩ = some (.slice A0_0 l0_0.length c0_0) := (ZG BK274.out 0).trans rfl
    have hcz7_1 : w3.cell? ⟨gb274, 1, none⟩ = some (.slice A0_1 l0_1.length c0_1) := (ZG BK274.out 1).trans rfl
    have hfz7_0 := ZF BK274.out 0
    have hfz7_1 := ZF BK274.out 1
    go_wp2
    go_meet
    case rel => exact ⟨_, (true), (by first | rfl | (simp; done) | (simp [*]; done)), H', ⟨by first | omega | exact Nat.le_refl _⟩, ⟨ZBK BK274.out⟩, ⟨ZBB HB.out⟩⟩
   ·rw [if_neg c6] at H
    have c6b0 : decide (12 < (l0_0.length : Int)) = false := decide_eq_false c6
    have c6b1 : decide (12 < l0_0.length) = false := decide_eq_false (by omega)
    clear c6
    have H' := ZM H
    clear H
    have hcz8_0 : w3.cell? ⟨gb274, 0, none⟩ = some (.slice A0_0 l0_0.length c0_0) := (ZG BK274.out 0).trans rfl
    have hcz8_1 : w3.cell? ⟨gb274, 1, none⟩ = some (.slice A0_1 l0_1.length c0_1) := (ZG BK274.out 1).trans rfl
    have hfz8_0 := ZF BK274.out 0
    have hfz8_1 := ZF BK274.out 1
    go_wp2
    go_meet
    case rel => exact ⟨_, (decide ((l0_1.length : Int) > 24)), (by first | rfl | (simp; done) | (simp [*]; done)), H', ⟨by first | omega | exact Nat.le_refl _⟩, ⟨ZBK BK274.out⟩, ⟨ZBB HB.out⟩⟩
 case rest =>
  clear HC2
  try clear c4
  try clear c4b0
  try clear c4b1
  try clear c6
  try clear c6b0
  try clear c6b1
  try clear hcz5_0
  try clear hcz5_1
  try clear hcz7_0
  try clear hcz7_1
  try clear hcz8_0
  try clear hcz8_1
  try clear hfz5_0
  try clear hfz5_1
  try clear hfz7_0
  try clear hfz7_1
  try clear hfz8_0
  try clear hfz8_1
  obtain ⟨kq, x22_1, rfl, HA, HJ1, BK274, HB⟩ := hcut
  cases kq with
  | zero => exact absurd HA.out (by simp [meanderref09_Graph.j0])
  | succ kj1 =>
   have H := HA.out
   clear HA
   simp only [meanderref09_Graph.j0] at H
   by_cases c9 : x22_1 = true
   ·subst c9
    have H1 : (some 3) = some r := by rw [if_pos rfl] at H; exact H
    clear H
    have H := H1
    clear H1
    obtain rfl := Option.some.inj H
    go_wp2
    go_ret
    exact ⟨by first | rfl | (simp [errW_none, errW_some] <;> rfl) | (simp [*, errW_none, errW_some] <;> rfl), ZBB HB.out⟩
   ·replace c9 := Bool.eq_false_iff.mpr c9
    subst c9
    have H1 : (meanderref09_Graph.l0 kj1 0 l0_0 l0_1) = some r := by rw [if_neg (show ¬ (false = true) by decide)] at H; exact H
    clear H
    have H := H1
    clear H1
    have H' := ZM H
    clear H
    go_wp2
    go_loopg [3] kj1 (fun kq v3 w' => ∃ (x3_2 : Int), v3 = .int .i64 x3_2 ∧ Aside0 (meanderref09_Graph.l0 kq x3_2 l0_0 l0_1 = some r) ∧ Aside0 (kq ≤ kj1) ∧ Aside0 (w'.heap[gb274]? = some (.cells #[(.slice A0_0 l0_0.length c0_0), (.slice A0_1 l0_1.length c0_1)] 27 (0, 0))) ∧ Aside0 (Below w.heap.size w w'))
    case atStart => exact ⟨(0), (by first | rfl | (simp; done) | (simp [*]; done)), H', ⟨Nat.le_refl _⟩, ⟨ZBK BK274.out⟩, ⟨ZBB HB.out⟩⟩
    case round =>
     clear H'
     try clear c4
     try clear c4b0
     try clear c4b1
     try clear c6
     try clear c6b0
     try clear c6b1
     try clear c9
     try clear hcz5_0
     try clear hcz5_1
     try clear hcz7_0
     try clear hcz7_1
     try clear hcz8_0
     try clear hcz8_1
     try clear hfz5_0
     try clear hfz5_1
     try clear hfz7_0
     try clear hfz7_1
     try clear hfz8_0
     try clear hfz8_1
     obtain ⟨x3_2, rfl, HA, HK2, BK274, HB⟩ := hrel
     cases gk with
     | zero => exact absurd HA.out (by simp [meanderref09_Graph.l0])
     | succ k2 =>
      have H := HA.out
      clear HA
      simp only [meanderref09_Graph.l0] at H
      by_cases c10 : x3_2 < (l0_0.length : Int)
      ·rw [if_pos c10] at H
       have c10b0 : decide (x3_2 < (l0_0.length : Int)) = true := decide_eq_true c10
       clear c10
       by_cases c11 : 0 ≤ x3_2
       case neg =>
        rw [if_neg c11] at H
        exact absurd H (by simp)
       rw [if_pos c11] at H
       have c11b0 : decide (0 ≤ x3_2) = true := decide_eq_true c11
       clear c11
       replace H := Option.bind_eq_some_iff.mp H
       obtain ⟨t276, A120, H⟩ := H
       replace H : (if t276 = true then (meanderref09_Graph.l0 k2 (wrap64 (x3_2 + 1)) l0_0 l0_1) else (some 10)) = some r := H
       have A12 := ZM A120
       clear A120
       by_cases c13 : t276 = true
       ·subst c13
        have H1 : (meanderref09_Graph.l0 k2 (wrap64 (x3_2 + 1)) l0_0 l0_1) = some r := by rw [if_pos rfl] at H; exact H
        clear H
        have H := H1
        clear H1
        have H' := ZM H
        clear H
        have hcz14_0 : wr.cell? ⟨gb274, 0, none⟩ = some (.slice A0_0 l0_0.length c0_0) := (ZG BK274.out 0).trans rfl
        have hcz14_1 : wr.cell? ⟨gb274, 1, none⟩ = some (.slice A0_1 l0_1.length c0_1) := (ZG BK274.out 1).trans rfl
        have hfz14_0 := ZF BK274.out 0
        have hfz14_1 := ZF BK274.out 1
        have p275 : 0 ≤ (x3_2 : Int) := ZOD
        have q275 : x3_2 < (l0_0.length : Int) := ZOD
        obtain ⟨ad275, e275, hx275_0, hx275_1, hx275_2, hx275_3⟩ := at_T40 HR0_0.out x3_2 p275 q275
        cases e275
        replace hx275_0 := (HB.out.cell (ZC w _ hx275_0)).trans hx275_0
        replace hx275_1 := (HB.out.cell (ZC w _ hx275_1)).trans hx275_1
        replace hx275_2 := (HB.out.cell (ZC w _ hx275_2)).trans hx275_2
        replace hx275_3 := (HB.out.cell (ZC w _ hx275_3)).trans hx275_3
        replace p275 := eq_true p275
        replace q275 := eq_true q275
        go_wp2_with (first | ((with_reducible refine gate_callee (f := 27) rfl ?_); refine goesL_ (some 35) rfl rfl Tryd.func27 (by kernel_rfl) rfl #[.agg #[.int .i64 ((rd_T40 l0_0 x3_2).f0), .int .i64 ((rd_T40 l0_0 x3_2).f1), .int .i64 ((rd_T40 l0_0 x3_2).f2), .int .i64 ((rd_T40 l0_0 x3_2).f3)]] rfl ZH ?_; (with_reducible refine (meanderref09_Node.calls k2 ((rd_T40 l0_0 x3_2).f0) ((rd_T40 l0_0 x3_2).f1) ((rd_T40 l0_0 x3_2).f2) ((rd_T40 l0_0 x3_2).f3) true _ A12.out).mono ?_); rintro e w15 ⟨rfl, hb⟩; refine ⟨_, rfl, ?_⟩; have n0_ := ZM (blk_below (g := gb274) (o := .cells #[.slice (some ad275) l0_0.length c0_0, .slice A0_1 l0_1.length c0_1] 27 (0, 0)) (ZBK BK274.out) hb); have n1_ := ZM (ZW (ZBB HB.out) hb); clear BK274; clear HB; have BK274 := n0_; have HB := n1_; clear n0_ n1_; (try clear hb); (try clear hb2); (try clear hk); (try clear hi)))
        go_roundg k2
        case measure => have := HJ1.out; have := HK2.out; omega
        case rel => exact ⟨(wrap64 (x3_2 + 1)), (by first | rfl | (simp; done) | (simp [*]; done)), H', ⟨by have := HJ1.out; have := HK2.out; omega⟩, ⟨ZBK BK274.out⟩, ⟨ZBB HB.out⟩⟩
       ·replace c13 := Bool.eq_false_iff.mpr c13
        subst c13
        have H1 : (some 10) = some r := by rw [if_neg (show ¬ (false = true) by decide)] at H; exact H
        clear H
        have H := H1
        clear H1
        obtain rfl := Option.some.inj H
        have hcz16_0 : wr.cell? ⟨gb274, 0, none⟩ = some (.slice A0_0 l0_0.length c0_0) := (ZG BK274.out 0).trans rfl
        have hcz16_1 : wr.cell? ⟨gb274, 1, none⟩ = some (.slice A0_1 l0_1.length c0_1) := (ZG BK274.out 1).trans rfl
        have hfz16_0 := ZF BK274.out 0
        have hfz16_1 := ZF BK274.out 1
        have p275 : 0 ≤ (x3_2 : Int) := ZOD
        have q275 : x3_2 < (l0_0.length : Int) := ZOD
        obtain ⟨ad275, e275, hx275_0, hx275_1, hx275_2, hx275_3⟩ := at_T40 HR0_0.out x3_2 p275 q275
        cases e275
        replace hx275_0 := (HB.out.cell (ZC w _ hx275_0)).trans hx275_0
        replace hx275_1 := (HB.out.cell (ZC w _ hx275_1)).trans hx275_1
        replace hx275_2 := (HB.out.cell (ZC w _ hx275_2)).trans hx275_2
        replace hx275_3 := (HB.out.cell (ZC w _ hx275_3)).trans hx275_3
        replace p275 := eq_true p275
        replace q275 := eq_true q275
        go_wp2_with (first | ((with_reducible refine gate_callee (f := 27) rfl ?_); refine goesL_ (some 35) rfl rfl Tryd.func27 (by kernel_rfl) rfl #[.agg #[.int .i64 ((rd_T40 l0_0 x3_2).f0), .int .i64 ((rd_T40 l0_0 x3_2).f1), .int .i64 ((rd_T40 l0_0 x3_2).f2), .int .i64 ((rd_T40 l0_0 x3_2).f3)]] rfl ZH ?_; (with_reducible refine (meanderref09_Node.calls k2 ((rd_T40 l0_0 x3_2).f0) ((rd_T40 l0_0 x3_2).f1) ((rd_T40 l0_0 x3_2).f2) ((rd_T40 l0_0 x3_2).f3) false _ A12.out).mono ?_); rintro e w17 ⟨rfl, hb⟩; refine ⟨_, rfl, ?_⟩; have n0_ := ZM (blk_below (g := gb274) (o := .cells #[.slice (some ad275) l0_0.length c0_0, .slice A0_1 l0_1.length c0_1] 27 (0, 0)) (ZBK BK274.out) hb); have n1_ := ZM (ZW (ZBB HB.out) hb); clear BK274; clear HB; have BK274 := n0_; have HB := n1_; clear n0_ n1_; (try clear hb); (try clear hb2); (try clear hk); (try clear hi)))
        go_ret
        exact ⟨by first | rfl | (simp [errW_none, errW_some] <;> rfl) | (simp [*, errW_none, errW_some] <;> rfl), ZBB HB.out⟩
      ·rw [if_neg c10] at H
       have c10b0 : decide (x3_2 < (l0_0.length : Int)) = false := decide_eq_false c10
       clear c10
       replace H := Option.bind_eq_some_iff.mp H
       obtain ⟨t277, A180, H⟩ := H
       replace H : (if t277 = 0 then ((meanderref09_ports.f k2 l0_0 l0_1).bind fun t278 => (meanderref09_Graph.j2 k2 t278 l0_0 l0_1)) else (meanderref09_Graph.j2 k2 t277 l0_0 l0_1)) = some r := H
       have A18 := ZM A180
       clear A180
       have HC19 := ZM H
       clear H
       have hcz20_0 : wr.cell? ⟨gb274, 0, none⟩ = some (.slice A0_0 l0_0.length c0_0) := (ZG BK274.out 0).trans rfl
       have hcz20_1 : wr.cell? ⟨gb274, 1, none⟩ = some (.slice A0_1 l0_1.length c0_1) := (ZG BK274.out 1).trans rfl
       have hfz20_0 := ZF BK274.out 0
       have hfz20_1 := ZF BK274.out 1
       go_upto_if 41 with (first | ((with_reducible refine gate_callee (f := 28) rfl ?_); refine goesL_ (some 39) rfl rfl Tryd.func28 (by kernel_rfl) rfl #[.agg #[.slice A0_0 l0_0.length c0_0, .slice A0_1 l0_1.length c0_1]] rfl ZH ?_; (with_reducible refine (meanderref09_edges.calls k2 _ _ l0_0 _ _ l0_1 t277 _ ?side1 ?side2 ?side3 ?side4 A18.out).mono ?_); (case side1 => repeat (first | exact (Kd.C_below HR0_0.out HB.out) | (with_reducible refine Kd.C_alloc ?_ _) | (with_reducible refine Kd.C_drewN ?_ _) | (with_reducible refine Kd.C_drew ?_))); (case side2 => exact HC0_0.out); (case side3 => repeat (first | exact (Kd.C_below HR0_1.out HB.out) | (with_reducible refine Kd.C_alloc ?_ _) | (with_reducible refine Kd.C_drewN ?_ _) | (with_reducible refine Kd.C_drew ?_))); (case side4 => exact HC0_1.out); rintro e w21 ⟨rfl, hb⟩; refine ⟨_, rfl, ?_⟩; have n0_ := ZM (blk_below (g := gb274) (o := .cells #[.slice A0_0 l0_0.length c0_0, .slice A0_1 l0_1.length c0_1] 27 (0, 0)) (ZBK BK274.out) hb); have n1_ := ZM (ZW (ZBB HB.out) hb); clear BK274; clear HB; have BK274 := n0_; have HB := n1_; clear n0_ n1_; (try clear hb); (try clear hb2); (try clear hk); (try clear hi)))
       (try simp only [Act.put, ZI, ZJ, ZK])
       go_cut [5] (fun v5 wc => ∃ (kq : Nat) (x5_18 : Int), v5 = .int .i64 x5_18 ∧ Aside0 (meanderref09_Graph.j2 kq x5_18 l0_0 l0_1 = some r) ∧ Aside0 (kq ≤ k2) ∧ Aside0 (wc.heap[gb274]? = some (.cells #[(.slice A0_0 l0_0.length c0_0), (.slice A0_1 l0_1.length c0_1)] 27 (0, 0))) ∧ Aside0 (Below w.heap.size w wc))
       case first =>
        have H := HC19.out
        clear HC19
        by_cases c22 : t277 = 0
        ·rw [if_pos c22] at H
         have c22b0 : (t277 == 0) = true := beq_iff_eq.mpr c22
         have c22b1 : (t277 != 0) = false := bne_eq_false_iff_eq.mpr c22
         clear c22
         (first | rw [c22b0] | (simp only [i64_w, i32_w]; rw [c22b0]) | skip)
         replace H := Option.bind_eq_some_iff.mp H
         obtain ⟨t278, A230, H⟩ := H
         replace H : (meanderref09_Graph.j2 k2 t278 l0_0 l0_1) = some r := H
         have A23 := ZM A230
         clear A230
         have H' := ZM H
         clear H
         have hcz24_0 : w21.cell? ⟨gb274, 0, none⟩ = some (.slice A0_0 l0_0.length c0_0) := (ZG BK274.out 0).trans rfl
         have hcz24_1 : w21.cell? ⟨gb274, 1, none⟩ = some (.slice A0_1 l0_1.length c0_1) := (ZG BK274.out 1).trans rfl
         have hfz24_0 := ZF BK274.out 0
         have hfz24_1 := ZF BK274.out 1
         go_wp2_with (first | ((with_reducible refine gate_callee (f := 29) rfl ?_); refine goesL_ (some 43) rfl rfl Tryd.func29 (by kernel_rfl) rfl #[.agg #[.slice A0_0 l0_0.length c0_0, .slice A0_1 l0_1.length c0_1]] rfl ZH ?_; (with_reducible refine (meanderref09_ports.calls k2 _ _ l0_0 _ _ l0_1 t278 _ ?side1 ?side2 ?side3 ?side4 A23.out).mono ?_); (case side1 => repeat (first | exact (Kd.C_below HR0_0.out HB.out) | (with_reducible refine Kd.C_alloc ?_ _) | (with_reducible refine Kd.C_drewN ?_ _) | (with_reducible refine Kd.C_drew ?_))); (case side2 => exact HC0_0.out); (case side3 => repeat (first | exact (Kd.C_below HR0_1.out HB.out) | (with_reducible refine Kd.C_alloc ?_ _) | (with_reducible refine Kd.C_drewN ?_ _) | (with_reducible refine Kd.C_drew ?_))); (case side4 => exact HC0_1.out); rintro e w25 ⟨rfl, hb⟩; refine ⟨_, rfl, ?_⟩; have n0_ := ZM (blk_below (g := gb274) (o := .cells #[.slice A0_0 l0_0.length c0_0, .slice A0_1 l0_1.length c0_1] 27 (0, 0)) (ZBK BK274.out) hb); have n1_ := ZM (ZW (ZBB HB.out) hb); clear BK274; clear HB; have BK274 := n0_; have HB := n1_; clear n0_ n1_; (try clear hb); (try clear hb2); (try clear hk); (try clear hi)))
         go_meet
         case rel => exact ⟨_, (t278), (by first | rfl | (simp; done) | (simp [*]; done)), H', ⟨by have := HJ1.out; have := HK2.out; first | omega | exact Nat.le_refl _⟩, ⟨ZBK BK274.out⟩, ⟨ZBB HB.out⟩⟩
        ·rw [if_neg c22] at H
         have c22b0 : (t277 == 0) = false := beq_eq_false_iff_ne.mpr c22
         have c22b1 : (t277 != 0) = true := bne_iff_ne.mpr c22
         (first | rw [c22b0] | (simp only [i64_w, i32_w]; rw [c22b0]) | skip)
         have H' := ZM H
         clear H
         go_wp2
         go_meet
         case rel => exact ⟨_, (t277), (by first | rfl | (simp; done) | (simp [*]; done)), H', ⟨by have := HJ1.out; have := HK2.out; first | omega | exact Nat.le_refl _⟩, ⟨ZBK BK274.out⟩, ⟨ZBB HB.out⟩⟩
       case rest =>
        clear HC19
        try clear c4
        try clear c4b0
        try clear c4b1
        try clear c6
        try clear c6b0
        try clear c6b1
        try clear c9
        try clear c10
        try clear c10b0
        try clear c11
        try clear c11b0
        try clear c13
        try clear c22
        try clear c22b0
        try clear c22b1
        try clear hcz14_0
        try clear hcz14_1
        try clear hcz16_0
        try clear hcz16_1
        try clear hcz20_0
        try clear hcz20_1
        try clear hcz24_0
        try clear hcz24_1
        try clear hcz5_0
        try clear hcz5_1
        try clear hcz7_0
        try clear hcz7_1
        try clear hcz8_0
        try clear hcz8_1
        try clear hfz14_0
        try clear hfz14_1
        try clear hfz16_0
        try clear hfz16_1
        try clear hfz20_0
        try clear hfz20_1
        try clear hfz24_0
        try clear hfz24_1
        try clear hfz5_0
        try clear hfz5_1
        try clear hfz7_0
        try clear hfz7_1
        try clear hfz8_0
        try clear hfz8_1
        try clear hx275_0
        try clear hx275_1
        try clear hx275_2
        try clear hx275_3
        try clear p275
        try clear q275
        obtain ⟨kq, x5_18, rfl, HA, HJ18, BK274, HB⟩ := hcut
        cases kq with
        | zero => exact absurd HA.out (by simp [meanderref09_Graph.j2])
        | succ kj18 =>
         have H := HA.out
         clear HA
         simp only [meanderref09_Graph.j2] at H
         by_cases c26 : x5_18 = 0
         ·rw [if_pos c26] at H
          have c26b0 : (x5_18 == 0) = true := beq_iff_eq.mpr c26
          have c26b1 : (x5_18 != 0) = false := bne_eq_false_iff_eq.mpr c26
          clear c26
          have H' := ZM H
          clear H
          go_wp2
          go_loopg [6] kj18 (fun kq v6 w' => ∃ (x6_4 : Int), v6 = .int .i64 x6_4 ∧ Aside0 (meanderref09_Graph.l1 kq x6_4 l0_0 l0_1 = some r) ∧ Aside0 (kq ≤ kj18) ∧ Aside0 (w'.heap[gb274]? = some (.cells #[(.slice A0_0 l0_0.length c0_0), (.slice A0_1 l0_1.length c0_1)] 27 (0, 0))) ∧ Aside0 (Below w.heap.size w w'))
          case atStart => exact ⟨(0), (by first | rfl | (simp; done) | (simp [*]; done)), H', ⟨Nat.le_refl _⟩, ⟨ZBK BK274.out⟩, ⟨ZBB HB.out⟩⟩
          case round =>
           clear H'
           try clear c4
           try clear c4b0
           try clear c4b1
           try clear c6
           try clear c6b0
           try clear c6b1
           try clear c9
           try clear c10
           try clear c10b0
           try clear c11
           try clear c11b0
           try clear c13
           try clear c22
           try clear c22b0
           try clear c22b1
           try clear c26
           try clear c26b0
           try clear c26b1
           try clear hcz14_0
           try clear hcz14_1
           try clear hcz16_0
           try clear hcz16_1
           try clear hcz20_0
           try clear hcz20_1
           try clear hcz24_0
           try clear hcz24_1
           try clear hcz5_0
           try clear hcz5_1
           try clear hcz7_0
           try clear hcz7_1
           try clear hcz8_0
           try clear hcz8_1
           try clear hfz14_0
           try clear hfz14_1
           try clear hfz16_0
           try clear hfz16_1
           try clear hfz20_0
           try clear hfz20_1
           try clear hfz24_0
           try clear hfz24_1
           try clear hfz5_0
           try clear hfz5_1
           try clear hfz7_0
           try clear hfz7_1
           try clear hfz8_0
           try clear hfz8_1
           try clear hx275_0
           try clear hx275_1
           try clear hx275_2
           try clear hx275_3
           try clear p275
           try clear q275
           obtain ⟨x6_4, rfl, HA, HK4, BK274, HB⟩ := hrel
           cases gk with
           | zero => exact absurd HA.out (by simp [meanderref09_Graph.l1])
           | succ k4 =>
            have H := HA.out
            clear HA
            simp only [meanderref09_Graph.l1] at H
            by_cases c27 : x6_4 < (l0_0.length : Int)
            ·rw [if_pos c27] at H
             have c27b0 : decide (x6_4 < (l0_0.length : Int)) = true := decide_eq_true c27
             clear c27
             by_cases c28 : 0 ≤ x6_4
             case neg =>
              rw [if_neg c28] at H
              exact absurd H (by simp)
             rw [if_pos c28] at H
             have c28b0 : decide (0 ≤ x6_4) = true := decide_eq_true c28
             clear c28
             by_cases c29 : ((rd_T40 l0_0 x6_4).f0) = 10
             ·rw [if_pos c29] at H
              have c29b0 : (((rd_T40 l0_0 x6_4).f0) == 10) = true := beq_iff_eq.mpr c29
              have c29b1 : (((rd_T40 l0_0 x6_4).f0) != 10) = false := bne_eq_false_iff_eq.mpr c29
              clear c29
              have H' := ZM H
              clear H
              have hcz30_0 : wr.cell? ⟨gb274, 0, none⟩ = some (.slice A0_0 l0_0.length c0_0) := (ZG BK274.out 0).trans rfl
              have hcz30_1 : wr.cell? ⟨gb274, 1, none⟩ = some (.slice A0_1 l0_1.length c0_1) := (ZG BK274.out 1).trans rfl
              have hfz30_0 := ZF BK274.out 0
              have hfz30_1 := ZF BK274.out 1
              have p279 : 0 ≤ (x6_4 : Int) := ZOD
              have q279 : x6_4 < (l0_0.length : Int) := ZOD
              obtain ⟨ad279, e279, hx279_0, hx279_1, hx279_2, hx279_3⟩ := at_T40 HR0_0.out x6_4 p279 q279
              cases e279
              replace hx279_0 := (HB.out.cell (ZC w _ hx279_0)).trans hx279_0
              replace hx279_1 := (HB.out.cell (ZC w _ hx279_1)).trans hx279_1
              replace hx279_2 := (HB.out.cell (ZC w _ hx279_2)).trans hx279_2
              replace hx279_3 := (HB.out.cell (ZC w _ hx279_3)).trans hx279_3
              replace p279 := eq_true p279
              replace q279 := eq_true q279
              go_wp2
              go_roundg k4
              case measure => have := HJ1.out; have := HK2.out; have := HJ18.out; have := HK4.out; omega
              case rel => exact ⟨(wrap64 (x6_4 + 1)), (by first | rfl | (simp; done) | (simp [*]; done)), H', ⟨by have := HJ1.out; have := HK2.out; have := HJ18.out; have := HK4.out; omega⟩, ⟨ZBK BK274.out⟩, ⟨ZBB HB.out⟩⟩
             ·rw [if_neg c29] at H
              have c29b0 : (((rd_T40 l0_0 x6_4).f0) == 10) = false := beq_eq_false_iff_ne.mpr c29
              have c29b1 : (((rd_T40 l0_0 x6_4).f0) != 10) = true := bne_iff_ne.mpr c29
              replace H := Option.bind_eq_some_iff.mp H
              obtain ⟨t280, A310, H⟩ := H
              replace H : (if t280 = true then (some 14) else (meanderref09_Graph.l1 k4 (wrap64 (x6_4 + 1)) l0_0 l0_1)) = some r := H
              have A31 := ZM A310
              clear A310
              by_cases c32 : t280 = true
              ·subst c32
               have H1 : (some 14) = some r := by rw [if_pos rfl] at H; exact H
               clear H
               have H := H1
               clear H1
               obtain rfl := Option.some.inj H
               have hcz33_0 : wr.cell? ⟨gb274, 0, none⟩ = some (.slice A0_0 l0_0.length c0_0) := (ZG BK274.out 0).trans rfl
               have hcz33_1 : wr.cell? ⟨gb274, 1, none⟩ = some (.slice A0_1 l0_1.length c0_1) := (ZG BK274.out 1).trans rfl
               have hfz33_0 := ZF BK274.out 0
               have hfz33_1 := ZF BK274.out 1
               have p279 : 0 ≤ (x6_4 : Int) := ZOD
               have q279 : x6_4 < (l0_0.length : Int) := ZOD
               obtain ⟨ad279, e279, hx279_0, hx279_1, hx279_2, hx279_3⟩ := at_T40 HR0_0.out x6_4 p279 q279
               cases e279
               replace hx279_0 := (HB.out.cell (ZC w _ hx279_0)).trans hx279_0
               replace hx279_1 := (HB.out.cell (ZC w _ hx279_1)).trans hx279_1
               replace hx279_2 := (HB.out.cell (ZC w _ hx279_2)).trans hx279_2
               replace hx279_3 := (HB.out.cell (ZC w _ hx279_3)).trans hx279_3
               replace p279 := eq_true p279
               replace q279 := eq_true q279
               go_wp2_with (first | (go_at_call 30; (with_reducible refine (meanderref09_round.calls k4 _ _ l0_0 _ _ l0_1 x6_4 true _ ?side1 ?side2 ?side3 ?side4 A31.out).mono ?_); (case side1 => repeat (first | exact (Kd.C_below HR0_0.out HB.out) | (with_reducible refine Kd.C_alloc ?_ _) | (with_reducible refine Kd.C_drewN ?_ _) | (with_reducible refine Kd.C_drew ?_))); (case side2 => exact HC0_0.out); (case side3 => repeat (first | exact (Kd.C_below HR0_1.out HB.out) | (with_reducible refine Kd.C_alloc ?_ _) | (with_reducible refine Kd.C_drewN ?_ _) | (with_reducible refine Kd.C_drew ?_))); (case side4 => exact HC0_1.out); rintro e w34 ⟨rfl, hb⟩; have n0_ := ZM (blk_below (g := gb274) (o := .cells #[.slice (some ad279) l0_0.length c0_0, .slice A0_1 l0_1.length c0_1] 27 (0, 0)) (ZBK BK274.out) hb); have n1_ := ZM (ZW (ZBB HB.out) hb); clear BK274; clear HB; have BK274 := n0_; have HB := n1_; clear n0_ n1_; (try clear hb); (try clear hb2); (try clear hk); (try clear hi)))
               go_ret
               exact ⟨by first | rfl | (simp [errW_none, errW_some] <;> rfl) | (simp [*, errW_none, errW_some] <;> rfl), ZBB HB.out⟩
              ·replace c32 := Bool.eq_false_iff.mpr c32
               subst c32
               have H1 : (meanderref09_Graph.l1 k4 (wrap64 (x6_4 + 1)) l0_0 l0_1) = some r := by rw [if_neg (show ¬ (false = true) by decide)] at H; exact H
               clear H
               have H := H1
               clear H1
               have H' := ZM H
               clear H
               have hcz35_0 : wr.cell? ⟨gb274, 0, none⟩ = some (.slice A0_0 l0_0.length c0_0) := (ZG BK274.out 0).trans rfl
               have hcz35_1 : wr.cell? ⟨gb274, 1, none⟩ = some (.slice A0_1 l0_1.length c0_1) := (ZG BK274.out 1).trans rfl
               have hfz35_0 := ZF BK274.out 0
               have hfz35_1 := ZF BK274.out 1
               have p279 : 0 ≤ (x6_4 : Int) := ZOD
               have q279 : x6_4 < (l0_0.length : Int) := ZOD
               obtain ⟨ad279, e279, hx279_0, hx279_1, hx279_2, hx279_3⟩ := at_T40 HR0_0.out x6_4 p279 q279
               cases e279
               replace hx279_0 := (HB.out.cell (ZC w _ hx279_0)).trans hx279_0
               replace hx279_1 := (HB.out.cell (ZC w _ hx279_1)).trans hx279_1
               replace hx279_2 := (HB.out.cell (ZC w _ hx279_2)).trans hx279_2
               replace hx279_3 := (HB.out.cell (ZC w _ hx279_3)).trans hx279_3
               replace p279 := eq_true p279
               replace q279 := eq_true q279
               go_wp2_with (first | (go_at_call 30; (with_reducible refine (meanderref09_round.calls k4 _ _ l0_0 _ _ l0_1 x6_4 false _ ?side1 ?side2 ?side3 ?side4 A31.out).mono ?_); (case side1 => repeat (first | exact (Kd.C_below HR0_0.out HB.out) | (with_reducible refine Kd.C_alloc ?_ _) | (with_reducible refine Kd.C_drewN ?_ _) | (with_reducible refine Kd.C_drew ?_))); (case side2 => exact HC0_0.out); (case side3 => repeat (first | exact (Kd.C_below HR0_1.out HB.out) | (with_reducible refine Kd.C_alloc ?_ _) | (with_reducible refine Kd.C_drewN ?_ _) | (with_reducible refine Kd.C_drew ?_))); (case side4 => exact HC0_1.out); rintro e w36 ⟨rfl, hb⟩; have n0_ := ZM (blk_below (g := gb274) (o := .cells #[.slice (some ad279) l0_0.length c0_0, .slice A0_1 l0_1.length c0_1] 27 (0, 0)) (ZBK BK274.out) hb); have n1_ := ZM (ZW (ZBB HB.out) hb); clear BK274; clear HB; have BK274 := n0_; have HB := n1_; clear n0_ n1_; (try clear hb); (try clear hb2); (try clear hk); (try clear hi)))
               go_roundg k4
               case measure => have := HJ1.out; have := HK2.out; have := HJ18.out; have := HK4.out; omega
               case rel => exact ⟨(wrap64 (x6_4 + 1)), (by first | rfl | (simp; done) | (simp [*]; done)), H', ⟨by have := HJ1.out; have := HK2.out; have := HJ18.out; have := HK4.out; omega⟩, ⟨ZBK BK274.out⟩, ⟨ZBB HB.out⟩⟩
            ·rw [if_neg c27] at H
             have c27b0 : decide (x6_4 < (l0_0.length : Int)) = false := decide_eq_false c27
             clear c27
             obtain rfl := Option.some.inj H
             have hcz37_0 : wr.cell? ⟨gb274, 0, none⟩ = some (.slice A0_0 l0_0.length c0_0) := (ZG BK274.out 0).trans rfl
             have hcz37_1 : wr.cell? ⟨gb274, 1, none⟩ = some (.slice A0_1 l0_1.length c0_1) := (ZG BK274.out 1).trans rfl
             have hfz37_0 := ZF BK274.out 0
             have hfz37_1 := ZF BK274.out 1
             go_wp2
             go_ret
             exact ⟨by first | rfl | (simp [errW_none, errW_some] <;> rfl) | (simp [*, errW_none, errW_some] <;> rfl), ZBB HB.out⟩
         ·rw [if_neg c26] at H
          have c26b0 : (x5_18 == 0) = false := beq_eq_false_iff_ne.mpr c26
          have c26b1 : (x5_18 != 0) = true := bne_iff_ne.mpr c26
          obtain rfl := Option.some.inj H
          go_wp2
          go_ret
          exact ⟨by first | rfl | (simp [errW_none, errW_some] <;> rfl) | (simp [*, errW_none, errW_some] <;> rfl), ZBB HB.out⟩

end Go.Proofs.YtbjjcolbomaodaaDoor.PLdp
