-- Laid by hprint.py of this repo: the kit's printer, and contracts by hand beside it. Not trusted: Lean checks it.
import Derived.Test.YtbjjcolbomaodaaDoorWZ
import Derived.Test.YtbjjcolbomaodaaDoorPLdpx0
import Derived.Test.YtbjjcolbomaodaaDoorPLdpx9
namespace Go.Proofs.YtbjjcolbomaodaaDoor.PLdp
open Go.RowKit Go.Proofs.YtbjjcolbomaodaaDoorW.PrintWords Go.Proofs.YtbjjcolbomaodaaDoorW.PrintLast Go.Proofs.YtbjjcolbomaodaaDoorW.PrintMore
attribute [local go_sem] max2_int min2_int max_two min_two max_three min_three max_four min_four   -- for this text's walks alone
set_option linter.unusedVariables false
set_option linter.unusedSimpArgs false

/-! ### valid_round: function 67 -/
mutual
def valid_round.l0 : Nat → Int → Int → List Bool → List Int → List (S40) → List (S42) → Option (Bool)
 | 0, _, _, _, _, _, _ => none
 | k + 1, x1, x5, x6, x7, x145000, x145001 => if (x7.length : Int) > 0 then (if 0 < (x7.length : Int) then (if 1 ≤ (x7.length : Int) then ((graph_Next.f k x145000 x145001 (rd x7 0)).bind fun t158 => (valid_round.l1 k x1 x5 x6 (x7.drop (1 : Int).toNat) t158 (t158.length : Int) 0 x145000 x145001)) else (none)) else (none)) else (if 0 ≤ x1 then (if x1 < (x6.length : Int) then (some (rdOf false x6 x1)) else (none)) else (none))
def valid_round.l1 : Nat → Int → Int → List Bool → List Int → List (S82) → Int → Int → List (S40) → List (S42) → Option (Bool)
 | 0, _, _, _, _, _, _, _, _, _ => none
 | k + 1, x1, x5, x6, x7, x34, x35, x36, x145000, x145001 => if x36 < x35 then (if 0 ≤ x36 then (if x36 < (x34.length : Int) then (if 0 ≤ ((rd_T82 x34 x36).f0) then (if ((rd_T82 x34 x36).f0) < (x145000.length : Int) then (if ((rd_T82 x34 x36).f0) < (x6.length : Int) then (if rdOf false x6 ((rd_T82 x34 x36).f0) = true then (valid_round.j2 k x1 x5 x6 x7 x34 x35 x36 (rdOf false x6 ((rd_T82 x34 x36).f0)) x145000 x145001 ((rd_T82 x34 x36).f0) ((rd_T82 x34 x36).f1)) else ((valid_low.f ((rd_T40 x145000 ((rd_T82 x34 x36).f0)).f0) ((rd_T40 x145000 ((rd_T82 x34 x36).f0)).f1) ((rd_T40 x145000 ((rd_T82 x34 x36).f0)).f2) ((rd_T40 x145000 ((rd_T82 x34 x36).f0)).f3)).bind fun t166 => (if t166 < x5 then (valid_round.j2 k x1 x5 x6 x7 x34 x35 x36 (decide (t166 < x5)) x145000 x145001 ((rd_T82 x34 x36).f0) ((rd_T82 x34 x36).f1)) else (if ((rd_T40 x145000 ((rd_T82 x34 x36).f0)).f0) = 10 then (valid_round.j2 k x1 x5 x6 x7 x34 x35 x36 (((rd_T40 x145000 ((rd_T82 x34 x36).f0)).f3) == x5) x145000 x145001 ((rd_T82 x34 x36).f0) ((rd_T82 x34 x36).f1)) else (valid_round.j2 k x1 x5 x6 x7 x34 x35 x36 false x145000 x145001 ((rd_T82 x34 x36).f0) ((rd_T82 x34 x36).f1)))))) else (none)) else (none)) else (none)) else (none)) else (none)) else (valid_round.l0 k x1 x5 x6 x7 x145000 x145001)
def valid_round.j2 : Nat → Int → Int → List Bool → List Int → List (S82) → Int → Int → Bool → List (S40) → List (S42) → Int → Int → Option (Bool)
 | 0, _, _, _, _, _, _, _, _, _, _, _, _ => none
 | k + 1, x1, x5, x6, x7, x34, x35, x36, x46, x145000, x145001, x163000, x163001 => if x46 = true then (valid_round.l1 k x1 x5 x6 x7 x34 x35 (wrap64 (x36 + 1)) x145000 x145001) else (if x163000 = x1 then (if 0 ≤ x1 then (if x1 < (x6.length : Int) then (some (rdOf false (x6.set (x1 : Int).toNat true) x1)) else (none)) else (none)) else (if 0 ≤ x163000 then (if x163000 < (x6.length : Int) then (if x7.length < 17592186044416 then (valid_round.l1 k x1 x5 (x6.set (x163000 : Int).toNat true) (x7 ++ [x163000]) x34 x35 (wrap64 (x36 + 1)) x145000 x145001) else (none)) else (none)) else (none)))
end
def valid_round.f (k : Nat) (l0_0 : List (S40)) (l0_1 : List (S42)) (a1 : Int) : Option (Bool) := if 0 ≤ a1 then (if a1 < (l0_0.length : Int) then ((valid_low.f ((rd_T40 l0_0 a1).f0) ((rd_T40 l0_0 a1).f1) ((rd_T40 l0_0 a1).f2) ((rd_T40 l0_0 a1).f3)).bind fun t146 => (if 0 ≤ (l0_0.length : Int) then (if ((l0_0.length : Int) : Int).toNat ≤ 281474976710656 then (valid_round.l0 k a1 t146 (List.replicate ((l0_0.length : Int) : Int).toNat false) (([a1] : List Int)) l0_0 l0_1) else (none)) else (none))) else (none)) else (none)
theorem valid_round.mono_l : ∀ k, (∀ y0 y1 y2 y3 y4 y5, LeO (valid_round.l0 k y0 y1 y2 y3 y4 y5) (valid_round.l0 (k + 1) y0 y1 y2 y3 y4 y5)) ∧ (∀ y0 y1 y2 y3 y4 y5 y6 y7 y8, LeO (valid_round.l1 k y0 y1 y2 y3 y4 y5 y6 y7 y8) (valid_round.l1 (k + 1) y0 y1 y2 y3 y4 y5 y6 y7 y8)) ∧ (∀ y0 y1 y2 y3 y4 y5 y6 y7 y8 y9 y10 y11, LeO (valid_round.j2 k y0 y1 y2 y3 y4 y5 y6 y7 y8 y9 y10 y11) (valid_round.j2 (k + 1) y0 y1 y2 y3 y4 y5 y6 y7 y8 y9 y10 y11))
 | 0 => ⟨fun _ _ _ _ _ _ r h => by simp [valid_round.l0] at h, fun _ _ _ _ _ _ _ _ _ r h => by simp [valid_round.l1] at h, fun _ _ _ _ _ _ _ _ _ _ _ _ r h => by simp [valid_round.j2] at h⟩
 | k + 1 => by
  obtain ⟨ih0, ih1, ih2⟩ := valid_round.mono_l k
  refine ⟨?_, ?_, ?_⟩
  ·intro y0 y1 y2 y3 y4 y5
   unfold valid_round.l0
   repeat' first
   | (with_reducible exact ih0 _ _ _ _ _ _)
   | (with_reducible exact ih1 _ _ _ _ _ _ _ _ _)
   | (with_reducible exact ih2 _ _ _ _ _ _ _ _ _ _ _ _)
   | (with_reducible exact graph_Next.mono _ _ _ _)
   | (with_reducible exact LeO.refl _)
   | (with_reducible exact LeO.none _)
   | (with_reducible refine LeO.ite ?_ ?_)
   | (with_reducible refine LeO.bind ?_ (fun _ => ?_))
   | exact ih0 _ _ _ _ _ _
   | exact ih1 _ _ _ _ _ _ _ _ _
   | exact ih2 _ _ _ _ _ _ _ _ _ _ _ _
   | exact graph_Next.mono _ _ _ _
   | exact LeO.none _
   | refine LeO.ite ?_ ?_
   | refine LeO.bind ?_ (fun _ => ?_)
  ·intro y0 y1 y2 y3 y4 y5 y6 y7 y8
   unfold valid_round.l1
   repeat' first
   | (with_reducible exact ih0 _ _ _ _ _ _)
   | (with_reducible exact ih1 _ _ _ _ _ _ _ _ _)
   | (with_reducible exact ih2 _ _ _ _ _ _ _ _ _ _ _ _)
   | (with_reducible exact graph_Next.mono _ _ _ _)
   | (with_reducible exact LeO.refl _)
   | (with_reducible exact LeO.none _)
   | (with_reducible refine LeO.ite ?_ ?_)
   | (with_reducible refine LeO.bind ?_ (fun _ => ?_))
   | exact ih0 _ _ _ _ _ _
   | exact ih1 _ _ _ _ _ _ _ _ _
   | exact ih2 _ _ _ _ _ _ _ _ _ _ _ _
   | exact graph_Next.mono _ _ _ _
   | exact LeO.none _
   | refine LeO.ite ?_ ?_
   | refine LeO.bind ?_ (fun _ => ?_)
  ·intro y0 y1 y2 y3 y4 y5 y6 y7 y8 y9 y10 y11
   unfold valid_round.j2
   repeat' first
   | (with_reducible exact ih0 _ _ _ _ _ _)
   | (with_reducible exact ih1 _ _ _ _ _ _ _ _ _)
   | (with_reducible exact ih2 _ _ _ _ _ _ _ _ _ _ _ _)
   | (with_reducible exact graph_Next.mono _ _ _ _)
   | (with_reducible exact LeO.refl _)
   | (with_reducible exact LeO.none _)
   | (with_reducible refine LeO.ite ?_ ?_)
   | (with_reducible refine LeO.bind ?_ (fun _ => ?_))
   | exact ih0 _ _ _ _ _ _
   | exact ih1 _ _ _ _ _ _ _ _ _
   | exact ih2 _ _ _ _ _ _ _ _ _ _ _ _
   | exact graph_Next.mono _ _ _ _
   | exact LeO.none _
   | refine LeO.ite ?_ ?_
   | refine LeO.bind ?_ (fun _ => ?_)
theorem valid_round.mono : ∀ a0 a1 a2 k, LeO (valid_round.f k a0 a1 a2) (valid_round.f (k + 1) a0 a1 a2) := by
 intro a0 a1 a2 k
 obtain ⟨ih0, ih1, ih2⟩ := valid_round.mono_l k
 unfold valid_round.f
 repeat' first
   | (with_reducible exact ih0 _ _ _ _ _ _)
   | (with_reducible exact ih1 _ _ _ _ _ _ _ _ _)
   | (with_reducible exact ih2 _ _ _ _ _ _ _ _ _ _ _ _)
   | (with_reducible exact graph_Next.mono _ _ _ _)
   | (with_reducible exact LeO.refl _)
   | (with_reducible exact LeO.none _)
   | (with_reducible refine LeO.ite ?_ ?_)
   | (with_reducible refine LeO.bind ?_ (fun _ => ?_))
   | exact ih0 _ _ _ _ _ _
   | exact ih1 _ _ _ _ _ _ _ _ _
   | exact ih2 _ _ _ _ _ _ _ _ _ _ _ _
   | exact graph_Next.mono _ _ _ _
   | exact LeO.none _
   | refine LeO.ite ?_ ?_
   | refine LeO.bind ?_ (fun _ => ?_)
set_option maxHeartbeats 8000000 in
set_option maxRecDepth 100000 in
theorem valid_round.calls (k : Nat) (A0_0 : Option Addr) (c0_0 : Nat) (l0_0 : List (S40)) (A0_1 : Option Addr) (c0_1 : Nat) (l0_1 : List (S42)) (a1 : Int) (r : Bool) (w : World) (hr0_0 : Kd.C k40 w A0_0 l0_0.length l0_0) (hc0_0 : l0_0.length ≤ c0_0) (hr0_1 : Kd.C k42 w A0_1 l0_1.length l0_1) (hc0_1 : l0_1.length ≤ c0_1) (h : valid_round.f k l0_0 l0_1 a1 = some r) :
  Calls Tryd.prog 67 #[.agg #[.slice A0_0 l0_0.length c0_0, .slice A0_1 l0_1.length c0_1], .int .i64 a1] w fun e w' => e = .returned (.bool r) ∧ Below w.heap.size w w' := by
 have hu27 := Tryd.underlying27
 have hu40 := Tryd.underlying40
 have hu82 := Tryd.underlying82
 have HR0_0 := ZM hr0_0
 have HC0_0 := ZM hc0_0
 clear hr0_0 hc0_0
 have HR0_1 := ZM hr0_1
 have HC0_1 := ZM hc0_1
 clear hr0_1 hc0_1
 have HB := ZM (Below.refl w.heap.size w)
 have H : (if 0 ≤ a1 then (if a1 < (l0_0.length : Int) then ((valid_low.f ((rd_T40 l0_0 a1).f0) ((rd_T40 l0_0 a1).f1) ((rd_T40 l0_0 a1).f2) ((rd_T40 l0_0 a1).f3)).bind fun t146 => (if 0 ≤ (l0_0.length : Int) then (if ((l0_0.length : Int) : Int).toNat ≤ 281474976710656 then (valid_round.l0 k a1 t146 (List.replicate ((l0_0.length : Int) : Int).toNat false) (([a1] : List Int)) l0_0 l0_1) else (none)) else (none))) else (none)) else (none)) = some r := h
 clear h
 by_cases c3 : 0 ≤ a1
 case neg =>
  rw [if_neg c3] at H
  exact absurd H (by simp)

 rw [if_pos c3] at H
 have c3b0 : decide (0 ≤ a1) = true := decide_eq_true c3
 clear c3
 by_cases c4 : a1 < (l0_0.length : Int)
 case neg =>
  rw [if_neg c4] at H
  exact absurd H (by simp)
 rw [if_pos c4] at H
 have c4b0 : decide (a1 < (l0_0.length : Int)) = true := decide_eq_true c4
 clear c4
 replace H := Option.bind_eq_some_iff.mp H
 obtain ⟨t146, A50, H⟩ := H
 replace H : (if 0 ≤ (l0_0.length : Int) then (if ((l0_0.length : Int) : Int).toNat ≤ 281474976710656 then (valid_round.l0 k a1 t146 (List.replicate ((l0_0.length : Int) : Int).toNat false) (([a1] : List Int)) l0_0 l0_1) else (none)) else (none)) = some r := H
 have A5 := ZM A50
 clear A50
 by_cases c6 : 0 ≤ (l0_0.length : Int)
 case neg =>
  rw [if_neg c6] at H
  exact absurd H (by simp)
 rw [if_pos c6] at H
 have c6b0 := eq_true c6
 have c6b1 : decide (0 ≤ (l0_0.length : Int)) = true := decide_eq_true c6
 clear c6
 by_cases c7 : ((l0_0.length : Int) : Int).toNat ≤ 281474976710656
 case neg =>
  rw [if_neg c7] at H
  exact absurd H (by simp)
 rw [if_pos c7] at H
 have c7b0 := eq_true c7
 have c7b1 : decide (((l0_0.length : Int) : Int).toNat ≤ 281474976710656) = true := decide_eq_true c7
 clear c7
 obtain ⟨y147, hy147⟩ : ∃ y_ : List Bool, y_ = (List.replicate ((l0_0.length : Int) : Int).toNat false) := ⟨_, rfl⟩
 replace H : (valid_round.l0 k a1 t146 y147 (([a1] : List Int)) l0_0 l0_1) = some r := by first | (rw [hy147]; with_reducible exact H) | (have H2_ := (Option.bind_some _ _).symm.trans H; rw [hy147]; with_reducible exact H2_) | (have H2_ := (Option.bind_some _ _).symm.trans H; with_reducible exact H2_) | with_reducible exact H | (rw [hy147]; exact H) | exact H
 have Ny147 := ZM hy147
 clear hy147
 obtain ⟨y150, hy150⟩ : ∃ y_ : List Int, y_ = (([a1] : List Int)) := ⟨_, rfl⟩
 replace H : (valid_round.l0 k a1 t146 y147 y150 l0_0 l0_1) = some r := by first | (rw [hy150]; with_reducible exact H) | (have H2_ := (Option.bind_some _ _).symm.trans H; rw [hy150]; with_reducible exact H2_) | (have H2_ := (Option.bind_some _ _).symm.trans H; with_reducible exact H2_) | with_reducible exact H | (rw [hy150]; exact H) | exact H
 have Ny150 := ZM hy150
 clear hy150
 have H' := ZM H
 clear H
 go_enter Tryd.func67, Tryd.ntmps67
 go_wp2_with (first | ((with_reducible refine gate_dst (N := 2) rfl ?_); refine box_event ?hg (N := 2) ?hd (cs := #[.slice A0_0 l0_0.length c0_0, .slice A0_1 l0_1.length c0_1]) (t := 27) ?hr ?_; (case hd => rfl); (case hg => rfl); (case hr => first | (go_simp; done) | (go_simp; rfl)); intro gb144 hg w8 hbox hb; have n0_ := ZM (ZW (ZBB HB.out) hb); have n1_ := ZM (hbox); have n2_ := ZM ((by rw [hg]; exact (ZV (ZBB HB.out)) : w.heap.size ≤ gb144)); have n3_ := ZM ((by rw [hg]; exact (ZV (ZBB HB.out)) : w.heap.size ≤ gb144)); clear HB; have HB := n0_; have BK144 := n1_; have GW144 := n2_; have GE144 := n3_; clear n0_ n1_ n2_ n3_; clear hb hbox hg; have hcz9_0 : w8.cell? ⟨gb144, 0, none⟩ = some (.slice A0_0 l0_0.length c0_0) := (ZG BK144.out 0).trans rfl; have hcz9_1 : w8.cell? ⟨gb144, 1, none⟩ = some (.slice A0_1 l0_1.length c0_1) := (ZG BK144.out 1).trans rfl; have hfz9_0 := ZF BK144.out 0; have hfz9_1 := ZF BK144.out 1; have p145 : 0 ≤ (a1 : Int) := ZOD; have q145 : a1 < (l0_0.length : Int) := ZOD; obtain ⟨ad145, e145, hx145_0, hx145_1, hx145_2, hx145_3⟩ := at_T40 HR0_0.out a1 p145 q145; cases e145; replace hx145_0 := (HB.out.cell (ZC w _ hx145_0)).trans hx145_0; replace hx145_1 := (HB.out.cell (ZC w _ hx145_1)).trans hx145_1; replace hx145_2 := (HB.out.cell (ZC w _ hx145_2)).trans hx145_2; replace hx145_3 := (HB.out.cell (ZC w _ hx145_3)).trans hx145_3; replace p145 := eq_true p145; replace q145 := eq_true q145) | ((with_reducible refine gate_callee (f := 84) rfl ?_); refine goesL_ (some 17) rfl rfl Tryd.func84 (by kernel_rfl) rfl #[.agg #[.int .i64 ((rd_T40 l0_0 a1).f0), .int .i64 ((rd_T40 l0_0 a1).f1), .int .i64 ((rd_T40 l0_0 a1).f2), .int .i64 ((rd_T40 l0_0 a1).f3)]] rfl ZH ?_; (with_reducible refine (valid_low.calls ((rd_T40 l0_0 a1).f0) ((rd_T40 l0_0 a1).f1) ((rd_T40 l0_0 a1).f2) ((rd_T40 l0_0 a1).f3) t146 _ A5.out).mono ?_); rintro e w10 ⟨rfl, hb⟩; refine ⟨_, rfl, ?_⟩; have n0_ := ZM (blk_below (g := gb144) (o := .cells #[.slice (some ad145) l0_0.length c0_0, .slice A0_1 l0_1.length c0_1] 27 (0, 0)) (ZBK BK144.out) hb); have n1_ := ZM (ZW (ZBB HB.out) hb); clear BK144; clear HB; have BK144 := n0_; have HB := n1_; clear n0_ n1_; (try clear hb); (try clear hb2); (try clear hk); (try clear hi); have hcz11_0 : w10.cell? ⟨gb144, 0, none⟩ = some (.slice (some ad145) l0_0.length c0_0) := (ZG BK144.out 0).trans rfl; have hcz11_1 : w10.cell? ⟨gb144, 1, none⟩ = some (.slice A0_1 l0_1.length c0_1) := (ZG BK144.out 1).trans rfl; have hfz11_0 := ZF BK144.out 0; have hfz11_1 := ZF BK144.out 1) | ((with_reducible refine gate_dst (N := 21) rfl ?_); refine Kd.R_make Kd.bool _ 4 rfl (N := 21) rfl 87 _ _ rfl (l0_0.length : Int) rfl rfl Tryd.underlying87 (.bool false) 1 info4 rfl (by decide) (by omega) false (ok := fun _ => True) (okp := fun _ => True) rfl (fun _ hk => hk) trivial (ZOD) (Nat.le_trans (Nat.mul_le_mul_right _ (ZOD : (l0_0.length : Int).toNat ≤ 281474976710656)) (by omega)) (Below.refl _ _) (Nat.le_refl _) ?_; intro v148 w12 ho13 hb hg_ hnew_; clear hg_ hnew_; (first | rw [← Ny147.out] at ho13 | (simp only [Int.reduceToNat] at ho13; rw [← Ny147.out] at ho13)); have n0_ := ZM (Kd.R_lower ho13 (ZV (ZBB HB.out))); have n1_ := ZM (blk_below (g := gb144) (o := .cells #[.slice (some ad145) l0_0.length c0_0, .slice A0_1 l0_1.length c0_1] 27 (0, 0)) (ZBK BK144.out) hb); have n2_ := ZM (ZW (ZBB HB.out) hb); clear BK144; clear HB; have HO149 := n0_; have BK144 := n1_; have HB := n2_; clear n0_ n1_ n2_; clear hb ho13) | ((with_reducible refine gate_dst (N := 23) rfl ?_); refine Kd.R_lit (Kd.int .i64) _ 3 ?hg (N := 23) ?hd (xs := ([a1] : List Int)) (inner := [.int .i64 a1]) (ok := fun _ => True) (okp := fun _ => True) ?hr ?hp (fun _ hk => hk) trivial (Below.refl _ _) (Nat.le_refl _) (by simp) ?_; (case hd => rfl); (case hg => rfl); (case hr => first | (go_simp; done) | (go_simp; rfl)); (case hp => exact (Reps.one (show Kd.M (Kd.int .i64) _ _ _ a1 [.int .i64 a1] from rfl) (Reps.none _ _))); intro v151 w14 ho15 hb hg_ hnew_; clear hg_ hnew_; (first | rw [← Ny150.out] at ho15 | (simp only [Int.reduceToNat] at ho15; rw [← Ny150.out] at ho15)); have n0_ := ZM (Kd.R_below (ZRK HO149.out) hb); have n1_ := ZM (Kd.R_lower ho15 (ZV (ZBB HB.out))); have n2_ := ZM (blk_below (g := gb144) (o := .cells #[.slice (some ad145) l0_0.length c0_0, .slice A0_1 l0_1.length c0_1] 27 (0, 0)) (ZBK BK144.out) hb); have n3_ := ZM (ZW (ZBB HB.out) hb); clear HO149; clear BK144; clear HB; have HO149 := n0_; have HO152 := n1_; have BK144 := n2_; have HB := n3_; clear n0_ n1_ n2_ n3_; clear hb ho15))
 go_step3
 go_wp2_with (first | ((with_reducible refine gate_dst (N := 2) rfl ?_); refine box_event ?hg (N := 2) ?hd (cs := #[.slice A0_0 l0_0.length c0_0, .slice A0_1 l0_1.length c0_1]) (t := 27) ?hr ?_; (case hd => rfl); (case hg => rfl); (case hr => first | (go_simp; done) | (go_simp; rfl)); intro gb144 hg w8 hbox hb; have n0_ := ZM (ZW (ZBB HB.out) hb); have n1_ := ZM (hbox); have n2_ := ZM ((by rw [hg]; exact (ZV (ZBB HB.out)) : w.heap.size ≤ gb144)); have n3_ := ZM ((by rw [hg]; exact (ZV (ZBB HB.out)) : w.heap.size ≤ gb144)); clear HB; have HB := n0_; have BK144 := n1_; have GW144 := n2_; have GE144 := n3_; clear n0_ n1_ n2_ n3_; clear hb hbox hg; have hcz9_0 : w8.cell? ⟨gb144, 0, none⟩ = some (.slice A0_0 l0_0.length c0_0) := (ZG BK144.out 0).trans rfl; have hcz9_1 : w8.cell? ⟨gb144, 1, none⟩ = some (.slice A0_1 l0_1.length c0_1) := (ZG BK144.out 1).trans rfl; have hfz9_0 := ZF BK144.out 0; have hfz9_1 := ZF BK144.out 1; have p145 : 0 ≤ (a1 : Int) := ZOD; have q145 : a1 < (l0_0.length : Int) := ZOD; obtain ⟨ad145, e145, hx145_0, hx145_1, hx145_2, hx145_3⟩ := at_T40 HR0_0.out a1 p145 q145; cases e145; replace hx145_0 := (HB.out.cell (ZC w _ hx145_0)).trans hx145_0; replace hx145_1 := (HB.out.cell (ZC w _ hx145_1)).trans hx145_1; replace hx145_2 := (HB.out.cell (ZC w _ hx145_2)).trans hx145_2; replace hx145_3 := (HB.out.cell (ZC w _ hx145_3)).trans hx145_3; replace p145 := eq_true p145; replace q145 := eq_true q145) | ((with_reducible refine gate_callee (f := 84) rfl ?_); refine goesL_ (some 17) rfl rfl Tryd.func84 (by kernel_rfl) rfl #[.agg #[.int .i64 ((rd_T40 l0_0 a1).f0), .int .i64 ((rd_T40 l0_0 a1).f1), .int .i64 ((rd_T40 l0_0 a1).f2), .int .i64 ((rd_T40 l0_0 a1).f3)]] rfl ZH ?_; (with_reducible refine (valid_low.calls ((rd_T40 l0_0 a1).f0) ((rd_T40 l0_0 a1).f1) ((rd_T40 l0_0 a1).f2) ((rd_T40 l0_0 a1).f3) t146 _ A5.out).mono ?_); rintro e w10 ⟨rfl, hb⟩; refine ⟨_, rfl, ?_⟩; have n0_ := ZM (blk_below (g := gb144) (o := .cells #[.slice (some ad145) l0_0.length c0_0, .slice A0_1 l0_1.length c0_1] 27 (0, 0)) (ZBK BK144.out) hb); have n1_ := ZM (ZW (ZBB HB.out) hb); clear BK144; clear HB; have BK144 := n0_; have HB := n1_; clear n0_ n1_; (try clear hb); (try clear hb2); (try clear hk); (try clear hi); have hcz11_0 : w10.cell? ⟨gb144, 0, none⟩ = some (.slice (some ad145) l0_0.length c0_0) := (ZG BK144.out 0).trans rfl; have hcz11_1 : w10.cell? ⟨gb144, 1, none⟩ = some (.slice A0_1 l0_1.length c0_1) := (ZG BK144.out 1).trans rfl; have hfz11_0 := ZF BK144.out 0; have hfz11_1 := ZF BK144.out 1) | ((with_reducible refine gate_dst (N := 21) rfl ?_); refine Kd.R_make Kd.bool _ 4 rfl (N := 21) rfl 87 _ _ rfl (l0_0.length : Int) rfl rfl Tryd.underlying87 (.bool false) 1 info4 rfl (by decide) (by omega) false (ok := fun _ => True) (okp := fun _ => True) rfl (fun _ hk => hk) trivial (ZOD) (Nat.le_trans (Nat.mul_le_mul_right _ (ZOD : (l0_0.length : Int).toNat ≤ 281474976710656)) (by omega)) (Below.refl _ _) (Nat.le_refl _) ?_; intro v148 w12 ho13 hb hg_ hnew_; clear hg_ hnew_; (first | rw [← Ny147.out] at ho13 | (simp only [Int.reduceToNat] at ho13; rw [← Ny147.out] at ho13)); have n0_ := ZM (Kd.R_lower ho13 (ZV (ZBB HB.out))); have n1_ := ZM (blk_below (g := gb144) (o := .cells #[.slice (some ad145) l0_0.length c0_0, .slice A0_1 l0_1.length c0_1] 27 (0, 0)) (ZBK BK144.out) hb); have n2_ := ZM (ZW (ZBB HB.out) hb); clear BK144; clear HB; have HO149 := n0_; have BK144 := n1_; have HB := n2_; clear n0_ n1_ n2_; clear hb ho13) | ((with_reducible refine gate_dst (N := 23) rfl ?_); refine Kd.R_lit (Kd.int .i64) _ 3 ?hg (N := 23) ?hd (xs := ([a1] : List Int)) (inner := [.int .i64 a1]) (ok := fun _ => True) (okp := fun _ => True) ?hr ?hp (fun _ hk => hk) trivial (Below.refl _ _) (Nat.le_refl _) (by simp) ?_; (case hd => rfl); (case hg => rfl); (case hr => first | (go_simp; done) | (go_simp; rfl)); (case hp => exact (Reps.one (show Kd.M (Kd.int .i64) _ _ _ a1 [.int .i64 a1] from rfl) (Reps.none _ _))); intro v151 w14 ho15 hb hg_ hnew_; clear hg_ hnew_; (first | rw [← Ny150.out] at ho15 | (simp only [Int.reduceToNat] at ho15; rw [← Ny150.out] at ho15)); have n0_ := ZM (Kd.R_below (ZRK HO149.out) hb); have n1_ := ZM (Kd.R_lower ho15 (ZV (ZBB HB.out))); have n2_ := ZM (blk_below (g := gb144) (o := .cells #[.slice (some ad145) l0_0.length c0_0, .slice A0_1 l0_1.length c0_1] 27 (0, 0)) (ZBK BK144.out) hb); have n3_ := ZM (ZW (ZBB HB.out) hb); clear HO149; clear BK144; clear HB; have HO149 := n0_; have HO152 := n1_; have BK144 := n2_; have HB := n3_; clear n0_ n1_ n2_ n3_; clear hb ho15))
 go_step3
 go_wp2_with (fail)
 go_loopg [7] k (fun kq v7 w' => ∃ (x6_1 : List Bool) (x7_1 : List Int), Aside0 (valid_round.l0 kq a1 t146 x6_1 x7_1 l0_0 l0_1 = some r) ∧ Aside0 (kq ≤ k) ∧ Aside0 (Kd.R Kd.bool 4 w' w.heap.size (fun _ => True) v148 x6_1) ∧ Aside0 (Kd.Q (Kd.int .i64) 3 w' w.heap.size (fun _ => True) v7 x7_1) ∧ Aside0 (w'.heap[gb144]? = some (.cells #[(.slice (some ad145) l0_0.length c0_0), (.slice A0_1 l0_1.length c0_1)] 27 (0, 0))) ∧ Aside0 (Below w.heap.size w w'))
 case atStart => exact ⟨(y147), (y150), H', ⟨Nat.le_refl _⟩, ⟨ZRK HO149.out⟩, ⟨Kd.Q_of_R (ZRK HO152.out)⟩, ⟨ZBK BK144.out⟩, ⟨ZBB HB.out⟩⟩
 case round =>
  clear H'
  try clear c3
  try clear c3b0
  try clear c4
  try clear c4b0
  try clear c6
  try clear c6b0
  try clear c6b1
  try clear c7
  try clear c7b0
  try clear c7b1
  try clear hcz11_0
  try clear hcz11_1
  try clear hcz9_0
  try clear hcz9_1
  try clear hfz11_0
  try clear hfz11_1
  try clear hfz9_0
  try clear hfz9_1
  try clear hx145_0
  try clear hx145_1
  try clear hx145_2
  try clear hx145_3
  try clear p145
  try clear q145
  obtain ⟨x6_1, x7_1, HA, HK1, HO_6, HO_7, BK144, HB⟩ := hrel
  cases gk with
  | zero => exact absurd HA.out (by simp [valid_round.l0])
  | succ k1 =>
   have H := HA.out
   clear HA
   simp only [valid_round.l0] at H
   by_cases c16 : (x7_1.length : Int) > 0
   ·rw [if_pos c16] at H
    have c16b0 : decide (0 < (x7_1.length : Int)) = true := decide_eq_true c16
    have c16b1 : decide (0 < x7_1.length) = true := decide_eq_true (by omega)
    clear c16
    by_cases c17 : 0 < (x7_1.length : Int)
    case neg =>
     rw [if_neg c17] at H
     exact absurd H (by simp)
    rw [if_pos c17] at H
    have c17b0 : decide (0 < (x7_1.length : Int)) = true := decide_eq_true c17
    have c17b1 : decide (0 < x7_1.length) = true := decide_eq_true (by omega)
    clear c17
    by_cases c18 : 1 ≤ (x7_1.length : Int)
    case neg =>
     rw [if_neg c18] at H
     exact absurd H (by simp)
    rw [if_pos c18] at H
    have c18b0 := eq_true c18
    have c18b1 : decide (1 ≤ (x7_1.length : Int)) = true := decide_eq_true c18
    clear c18
    obtain ⟨y155, hy155⟩ : ∃ y_ : List Int, y_ = (x7_1.drop (1 : Int).toNat) := ⟨_, rfl⟩
    replace H : ((graph_Next.f k1 l0_0 l0_1 (rd x7_1 0)).bind fun t158 => (valid_round.l1 k1 a1 t146 x6_1 y155 t158 (t158.length : Int) 0 l0_0 l0_1)) = some r := by first | (rw [hy155]; with_reducible exact H) | (have H2_ := (Option.bind_some _ _).symm.trans H; rw [hy155]; with_reducible exact H2_) | (have H2_ := (Option.bind_some _ _).symm.trans H; with_reducible exact H2_) | with_reducible exact H | (rw [hy155]; exact H) | exact H
    have Ny155 := ZM hy155
    clear hy155
    replace H := Option.bind_eq_some_iff.mp H
    obtain ⟨t158, A190, H⟩ := H
    replace H : (valid_round.l1 k1 a1 t146 x6_1 y155 t158 (t158.length : Int) 0 l0_0 l0_1) = some r := H
    have A19 := ZM A190
    clear A190
    have H' := ZM H
    clear H
    obtain ⟨Ao20, co20, eo20, _⟩ := Kd.Q_slice HO_7.out
    subst eo20
    have p154 : 0 ≤ (0 : Int) := (by omega)
    have q154 : 0 < (x7_1.length : Int) := ZOD
    obtain ⟨ad154, e154, hx154_0⟩ := Kd.at_int (Kd.Q_reads' HO_7.out).2.2 0 p154 q154
    cases e154
    have qi154 : (0 < x7_1.length) = True := eq_true (by omega)
    (try rw [show ((0 : Int)).toNat = 0 from rfl] at hx154_0)
    (try rw [Addr.add_zero'] at hx154_0)
    replace p154 := eq_true p154
    replace q154 := eq_true q154
    have q21 : (1 : Int) ≤ ((x7_1.length : Int) : Int) := ZOD
    obtain ⟨i021, hi021, _, hsz21, _⟩ := info_parts info3
    have hcut21 := cut_from (P := Tryd.prog) 61 3 .i64 Tryd.underlying61 hi021 1 hsz21 (some ad154) x7_1.length co20 1 (by omega) q21
    have hr21 := Kd.Q_drop (k := (1 : Int).toNat) HO_7.out (by omega)
    obtain ⟨A21, hA21⟩ : ∃ A1, A1 = (if co20 = (1 : Int).toNat then (some ad154) else ((some ad154) : Option Addr).map (·.add ((1 : Int).toNat * 1))) := ⟨_, rfl⟩
    obtain ⟨c21, hc21⟩ : ∃ c1, c1 = co20 - (1 : Int).toNat := ⟨_, rfl⟩
    have hy21 : y155.length = x7_1.length - (1 : Int).toNat := (by rw [Ny155.out, List.length_drop])
    rw [← Ny155.out] at hr21
    rw [← hy21, ← hA21, ← hc21] at hcut21
    replace hr21 : Kd.Q (Kd.int .i64) 3 wr w.heap.size (fun _ => True) (.slice A21 y155.length c21) y155 := (by rw [hA21, hc21, hy21]; exact hr21)
    have HE21 : Aside0 ((Value.slice A21 y155.length c21).ownBlock = (.slice (some ad154) x7_1.length co20 : Value).ownBlock) := ⟨by rw [hA21]; split <;> (cases ((some ad154) : Option Addr) <;> rfl)⟩
    clear hy21 hi021 hsz21 HO_7 hA21 hc21
    have HO157 := ZM hr21
    clear hr21
    replace q21 := eq_true q21
    have hcz22_0 : wr.cell? ⟨gb144, 0, none⟩ = some (.slice (some ad145) l0_0.length c0_0) := (ZG BK144.out 0).trans rfl
    have hcz22_1 : wr.cell? ⟨gb144, 1, none⟩ = some (.slice A0_1 l0_1.length c0_1) := (ZG BK144.out 1).trans rfl
    have hfz22_0 := ZF BK144.out 0
    have hfz22_1 := ZF BK144.out 1
    go_wp2_with (first | ((with_reducible refine gate_callee (f := 85) rfl ?_); refine goesL_ (some 34) rfl rfl Tryd.func85 (by kernel_rfl) rfl #[.agg #[.slice (some ad145) l0_0.length c0_0, .slice A0_1 l0_1.length c0_1], .int .i64 (rd x7_1 0)] rfl ZH ?_; (with_reducible refine (graph_Next.calls k1 _ _ l0_0 _ _ l0_1 (rd x7_1 0) t158 _ ?side1 ?side2 ?side3 ?side4 A19.out).mono ?_); (case side1 => repeat (first | exact (Kd.C_below HR0_0.out HB.out) | (with_reducible refine Kd.C_alloc ?_ _) | (with_reducible refine Kd.C_drewN ?_ _) | (with_reducible refine Kd.C_drew ?_))); (case side2 => exact HC0_0.out); (case side3 => repeat (first | exact (Kd.C_below HR0_1.out HB.out) | (with_reducible refine Kd.C_alloc ?_ _) | (with_reducible refine Kd.C_drewN ?_ _) | (with_reducible refine Kd.C_drew ?_))); (case side4 => exact HC0_1.out); rintro e w23 ⟨v159, rfl, ho0, hb⟩; refine ⟨_, rfl, ?_⟩; have n0_ := ZM (Kd.R_below (ZRK HO_6.out) hb); have n1_ := ZM (Kd.Q_below (by (with_reducible repeat (first | apply Kd.Q_alloc | apply Kd.Q_drewN | apply Kd.Q_drew)); exact HO157.out) hb); have n2_ := ZM (Kd.R_lower ho0 (ZV (ZBB HB.out))); have n3_ := ZM (blk_below (g := gb144) (o := .cells #[.slice (some ad145) l0_0.length c0_0, .slice A0_1 l0_1.length c0_1] 27 (0, 0)) (ZBK BK144.out) hb); have n4_ := ZM (ZW (ZBB HB.out) hb); clear HO_6; clear HO157; clear BK144; clear HB; have HO_6 := n0_; have HO157 := n1_; have HO160 := n2_; have BK144 := n3_; have HB := n4_; clear n0_ n1_ n2_ n3_ n4_; (try clear hb); (try clear hb2); (try clear hk); (try clear hi); (try clear ho0); obtain ⟨Ao24, co24, eo24⟩ := Kd.R_slice HO160.out; subst eo24))
    go_loopg [7, 36] k1 (fun kq v7 v36 w' => ∃ (x6_2 : List Bool) (x7_2 : List Int) (x36_2 : Int), v36 = .int .i64 x36_2 ∧ Aside0 (valid_round.l1 kq a1 t146 x6_2 x7_2 t158 (t158.length : Int) x36_2 l0_0 l0_1 = some r) ∧ Aside0 (kq ≤ k1) ∧ Aside0 (Kd.R Kd.bool 4 w' w.heap.size (fun _ => True) v148 x6_2) ∧ Aside0 (Kd.Q (Kd.int .i64) 3 w' w.heap.size (fun _ => True) v7 x7_2) ∧ Aside0 (Kd.R k82 82 w' w.heap.size (fun _ => True) (.slice Ao24 t158.length co24) t158) ∧ Aside0 (w'.heap[gb144]? = some (.cells #[(.slice (some ad145) l0_0.length c0_0), (.slice A0_1 l0_1.length c0_1)] 27 (0, 0))) ∧ Aside0 (Below w.heap.size w w'))
    case atStart => exact ⟨(x6_1), (y155), (0), (by first | rfl | (simp; done) | (simp [*]; done)), H', ⟨Nat.le_refl _⟩, ⟨ZRK HO_6.out⟩, ⟨by (with_reducible repeat (first | apply Kd.Q_alloc | apply Kd.Q_drewN | apply Kd.Q_drew)); exact HO157.out⟩, ⟨ZRK HO160.out⟩, ⟨ZBK BK144.out⟩, ⟨ZBB HB.out⟩⟩
    case round =>
     clear H'
     try clear c1
     try clear c3
     try clear c3b0
     try clear c4
     try clear c4b0
     try clear c6
     try clear c6b0
     try clear c6b1
     try clear c7
     try clear c7b0
     try clear c7b1
     try clear c16
     try clear c16b0
     try clear c16b1
     try clear c17
     try clear c17b0
     try clear c17b1
     try clear c18
     try clear c18b0
     try clear c18b1
     try clear c21
     try clear q21
     try clear hcz11_0
     try clear hcz11_1
     try clear hcz22_0
     try clear hcz22_1
     try clear hcz9_0
     try clear hcz9_1
     try clear hfz11_0
     try clear hfz11_1
     try clear hfz22_0
     try clear hfz22_1
     try clear hfz9_0
     try clear hfz9_1
     try clear hx145_0
     try clear hx145_1
     try clear hx145_2
     try clear hx145_3
     try clear hx154_0
     try clear p145
     try clear p154
     try clear q145
     try clear q154
     try clear q21
     obtain ⟨x6_2, x7_2, x36_2, rfl, HA, HK2, HO_6, HO_7, HO_34, BK144, HB⟩ := hrel
     cases gk with
     | zero => exact absurd HA.out (by simp [valid_round.l1])
     | succ k2 =>
      have H := HA.out
      clear HA
      simp only [valid_round.l1] at H
      by_cases c25 : x36_2 < (t158.length : Int)
      ·rw [if_pos c25] at H
       have c25b0 : decide (x36_2 < (t158.length : Int)) = true := decide_eq_true c25
       clear c25
       by_cases c26 : 0 ≤ x36_2
       case neg =>
        rw [if_neg c26] at H
        exact absurd H (by simp)
       rw [if_pos c26] at H
       have c26b0 : decide (0 ≤ x36_2) = true := decide_eq_true c26
       clear c26
       by_cases c27 : x36_2 < (t158.length : Int)
       case neg =>
        rw [if_neg c27] at H
        exact absurd H (by simp)
       rw [if_pos c27] at H
       have c27b0 : decide (x36_2 < (t158.length : Int)) = true := decide_eq_true c27
       clear c27
       by_cases c28 : 0 ≤ ((rd_T82 t158 x36_2).f0)
       case neg =>
        rw [if_neg c28] at H
        exact absurd H (by simp)
       rw [if_pos c28] at H
       have c28b0 : decide (0 ≤ ((rd_T82 t158 x36_2).f0)) = true := decide_eq_true c28
       clear c28
       by_cases c29 : ((rd_T82 t158 x36_2).f0) < (l0_0.length : Int)
       case neg =>
        rw [if_neg c29] at H
        exact absurd H (by simp)
       rw [if_pos c29] at H
       have c29b0 : decide (((rd_T82 t158 x36_2).f0) < (l0_0.length : Int)) = true := decide_eq_true c29
       clear c29
       by_cases c30 : ((rd_T82 t158 x36_2).f0) < (x6_2.length : Int)
       case neg =>
        rw [if_neg c30] at H
        exact absurd H (by simp)
       rw [if_pos c30] at H
       have c30b0 : decide (((rd_T82 t158 x36_2).f0) < (x6_2.length : Int)) = true := decide_eq_true c30
       clear c30
       have HC31 := ZM H
       clear H
       have p161 : 0 ≤ (x36_2 : Int) := ZOD
       have q161 : x36_2 < (t158.length : Int) := ZOD
       obtain ⟨ad161, e161, hx161_0, hx161_1⟩ := at_T82 (Kd.R_reads' HO_34.out).2.2 x36_2 p161 q161
       cases e161
       replace p161 := eq_true p161
       replace q161 := eq_true q161
       go_upto_if 46 with (first | ((with_reducible refine gate_dst (N := 10) rfl ?_); refine box_event ?hg (N := 10) ?hd (cs := #[.int .i64 0, .int .i64 0]) (t := 82) ?hr ?_; (case hd => rfl); (case hg => rfl); (case hr => first | (go_simp; done) | (go_simp; rfl)); intro gb162 hg w32 hbox hb; have n0_ := ZM (Kd.R_below (ZRK HO_6.out) hb); have n1_ := ZM (Kd.Q_below (by (with_reducible repeat (first | apply Kd.Q_alloc | apply Kd.Q_drewN | apply Kd.Q_drew)); exact HO_7.out) hb); have n2_ := ZM (Kd.R_below (Kd.R_elderB (ZRK HO_34.out) gb162 (Nat.le_of_eq hg.symm)) hb); have n3_ := ZM (blk_below (g := gb144) (o := .cells #[.slice (some ad145) l0_0.length c0_0, .slice A0_1 l0_1.length c0_1] 27 (0, 0)) (ZBK BK144.out) hb); have n4_ := ZM (ZW (ZBB HB.out) hb); have n5_ := ZM (hbox); have n6_ := ZM ((by rw [hg]; exact (ZV (ZBB HB.out)) : w.heap.size ≤ gb162)); have n7_ := ZM ((by rw [hg]; exact (ZV (ZBB HB.out)) : w.heap.size ≤ gb162)); have n8_ := ZM ((by rw [hg]; exact Nat.ne_of_lt (blk_lt (g := gb144) (o := .cells #[.slice (some ad145) l0_0.length c0_0, .slice A0_1 l0_1.length c0_1] 27 (0, 0)) (ZBK BK144.out)) : gb144 ≠ gb162)); have n9_ := ZM ((by rw [hg]; exact Nat.ne_of_gt (blk_lt (g := gb144) (o := .cells #[.slice (some ad145) l0_0.length c0_0, .slice A0_1 l0_1.length c0_1] 27 (0, 0)) (ZBK BK144.out)) : gb162 ≠ gb144)); clear HO_6; clear HO_7; clear HO_34; clear BK144; clear HB; have HO_6 := n0_; have HO_7 := n1_; have HO_34 := n2_; have BK144 := n3_; have HB := n4_; have BK162 := n5_; have GW162 := n6_; have GE162 := n7_; have NB144_162 := n8_; have NB162_144 := n9_; clear n0_ n1_ n2_ n3_ n4_ n5_ n6_ n7_ n8_ n9_; clear hb hbox hg; have hnb33 := NB162_144.out; have hnc33 := NB144_162.out; have hcz34_0 : w32.cell? ⟨gb162, 0, none⟩ = some (.int .i64 0) := (ZG BK162.out 0).trans rfl; have hcz34_1 : w32.cell? ⟨gb162, 1, none⟩ = some (.int .i64 0) := (ZG BK162.out 1).trans rfl; have hfz34_0 := ZF BK162.out 0; have hfz34_1 := ZF BK162.out 1; have hcz35_0 : w32.cell? ⟨gb144, 0, none⟩ = some (.slice (some ad145) l0_0.length c0_0) := (ZG BK144.out 0).trans rfl; have hcz35_1 : w32.cell? ⟨gb144, 1, none⟩ = some (.slice A0_1 l0_1.length c0_1) := (ZG BK144.out 1).trans rfl; have hfz35_0 := ZF BK144.out 0; have hfz35_1 := ZF BK144.out 1; have p163 : 0 ≤ (((rd_T82 t158 x36_2).f0) : Int) := ZOD; have q163 : ((rd_T82 t158 x36_2).f0) < (l0_0.length : Int) := ZOD; obtain ⟨ad163, e163, hx163_0, hx163_1, hx163_2, hx163_3⟩ := at_T40 HR0_0.out ((rd_T82 t158 x36_2).f0) p163 q163; obtain rfl : ad145 = ad163 := (by injection e163); have hn163_0 : ad145.block ≠ gb162 := Nat.ne_of_lt (Nat.lt_of_lt_of_le (by have := ZC _ _ hx163_0; first | rwa [add_block] at this | exact this) GW162.out); have hn163_1 : ad145.block ≠ gb162 := Nat.ne_of_lt (Nat.lt_of_lt_of_le (by have := ZC _ _ hx163_0; first | rwa [add_block] at this | exact this) GW162.out); replace hx163_0 := (HB.out.cell (ZC w _ hx163_0)).trans hx163_0; replace hx163_1 := (HB.out.cell (ZC w _ hx163_1)).trans hx163_1; replace hx163_2 := (HB.out.cell (ZC w _ hx163_2)).trans hx163_2; replace hx163_3 := (HB.out.cell (ZC w _ hx163_3)).trans hx163_3; replace hx163_0 := (cell_far (p := ⟨gb162, 0, none⟩) (by first | (rw [add_block]; exact hn163_0) | (show (Addr.add _ _).block ≠ _; rw [add_block]; exact hn163_0) | exact hn163_0) (.int .i64 ((rd_T82 t158 x36_2).f0))).trans hx163_0; replace hx163_1 := (cell_far (p := ⟨gb162, 0, none⟩) (by first | (rw [add_block]; exact hn163_0) | (show (Addr.add _ _).block ≠ _; rw [add_block]; exact hn163_0) | exact hn163_0) (.int .i64 ((rd_T82 t158 x36_2).f0))).trans hx163_1; replace hx163_2 := (cell_far (p := ⟨gb162, 0, none⟩) (by first | (rw [add_block]; exact hn163_0) | (show (Addr.add _ _).block ≠ _; rw [add_block]; exact hn163_0) | exact hn163_0) (.int .i64 ((rd_T82 t158 x36_2).f0))).trans hx163_2; replace hx163_3 := (cell_far (p := ⟨gb162, 0, none⟩) (by first | (rw [add_block]; exact hn163_0) | (show (Addr.add _ _).block ≠ _; rw [add_block]; exact hn163_0) | exact hn163_0) (.int .i64 ((rd_T82 t158 x36_2).f0))).trans hx163_3; replace hx163_0 := (cell_far (p := ⟨gb162, 1, none⟩) (by first | (rw [add_block]; exact hn163_1) | (show (Addr.add _ _).block ≠ _; rw [add_block]; exact hn163_1) | exact hn163_1) (.int .i64 ((rd_T82 t158 x36_2).f1))).trans hx163_0; replace hx163_1 := (cell_far (p := ⟨gb162, 1, none⟩) (by first | (rw [add_block]; exact hn163_1) | (show (Addr.add _ _).block ≠ _; rw [add_block]; exact hn163_1) | exact hn163_1) (.int .i64 ((rd_T82 t158 x36_2).f1))).trans hx163_1; replace hx163_2 := (cell_far (p := ⟨gb162, 1, none⟩) (by first | (rw [add_block]; exact hn163_1) | (show (Addr.add _ _).block ≠ _; rw [add_block]; exact hn163_1) | exact hn163_1) (.int .i64 ((rd_T82 t158 x36_2).f1))).trans hx163_2; replace hx163_3 := (cell_far (p := ⟨gb162, 1, none⟩) (by first | (rw [add_block]; exact hn163_1) | (show (Addr.add _ _).block ≠ _; rw [add_block]; exact hn163_1) | exact hn163_1) (.int .i64 ((rd_T82 t158 x36_2).f1))).trans hx163_3; clear hn163_0; clear hn163_1; replace p163 := eq_true p163; replace q163 := eq_true q163) | ((with_reducible refine gate_dst (N := 11) rfl ?_); refine box_event ?hg (N := 11) ?hd (cs := #[.int .i64 0, .int .i64 0, .int .i64 0, .int .i64 0]) (t := 40) ?hr ?_; (case hd => rfl); (case hg => rfl); (case hr => first | (go_simp; done) | (go_simp; rfl)); intro gb164 hg w36 hbox hb; have n0_ := ZM (Kd.R_below (by (with_reducible repeat (first | apply ZY | apply ZX | apply ZZ)); exact (Kd.R_mono (Kd.R_far (p := ⟨gb162, 1, none⟩) (Kd.R_far (p := ⟨gb162, 0, none⟩) (Kd.R_types HO_6.out BK162.out (by decide)) (fun _ hk => hk.2) (.int .i64 ((rd_T82 t158 x36_2).f0))) (fun _ hk => hk.2) (.int .i64 ((rd_T82 t158 x36_2).f1))) (fun _ h_ => h_.1))) hb); have n1_ := ZM (Kd.Q_below (by (with_reducible repeat (first | apply Kd.Q_alloc | apply Kd.Q_drewN | apply Kd.Q_drew)); exact (Kd.Q_mono (Kd.Q_far (p := ⟨gb162, 1, none⟩) (Kd.Q_far (p := ⟨gb162, 0, none⟩) (Kd.Q_types HO_7.out BK162.out (by decide)) (fun _ hk => hk.2) (.int .i64 ((rd_T82 t158 x36_2).f0))) (fun _ hk => hk.2) (.int .i64 ((rd_T82 t158 x36_2).f1))) (fun _ h_ => h_.1))) hb); have n2_ := ZM (Kd.R_below (by (with_reducible repeat (first | apply ZY | apply ZX | apply ZZ)); exact (Kd.R_mono (Kd.R_far (p := ⟨gb162, 1, none⟩) (Kd.R_far (p := ⟨gb162, 0, none⟩) (Kd.R_mono HO_34.out (fun k_ hk => (⟨hk, hk.2⟩ : _ ∧ k_ ≠ gb162))) (fun _ hk => hk.2) (.int .i64 ((rd_T82 t158 x36_2).f0))) (fun _ hk => hk.2) (.int .i64 ((rd_T82 t158 x36_2).f1))) (fun _ h_ => h_.1))) hb); have n3_ := ZM (blk_below (g := gb144) (o := .cells #[.slice (some ad145) l0_0.length c0_0, .slice A0_1 l0_1.length c0_1] 27 (0, 0)) (by (with_reducible repeat (first | refine ZR ?_ _ | refine ZS ?_ | refine ZT ?_ _)); refine blk_far ?_ NB144_162.out _; (with_reducible repeat (first | refine ZR ?_ _ | refine ZS ?_ | refine ZT ?_ _)); refine blk_far ?_ NB144_162.out _; (with_reducible repeat (first | refine ZR ?_ _ | refine ZS ?_ | refine ZT ?_ _)); exact BK144.out) hb); have n4_ := ZM (blk_below (g := gb162) (o := .cells #[.int .i64 ((rd_T82 t158 x36_2).f0), .int .i64 ((rd_T82 t158 x36_2).f1)] 82 (0, 0)) (by (with_reducible repeat (first | refine ZR ?_ _ | refine ZS ?_ | refine ZT ?_ _)); refine blk_put (cs := #[.int .i64 ((rd_T82 t158 x36_2).f0), .int .i64 0]) ?_ 1 _ rfl; (with_reducible repeat (first | refine ZR ?_ _ | refine ZS ?_ | refine ZT ?_ _)); refine blk_put (cs := #[.int .i64 0, .int .i64 0]) ?_ 0 _ rfl; (with_reducible repeat (first | refine ZR ?_ _ | refine ZS ?_ | refine ZT ?_ _)); exact BK162.out) hb); have n5_ := ZM (ZW (ZBB HB.out) hb); have n6_ := ZM (hbox); have n7_ := ZM ((by rw [hg]; exact (ZV (ZBB HB.out)) : w.heap.size ≤ gb164)); have n8_ := ZM ((by rw [hg]; exact (ZV (ZBB HB.out)) : w.heap.size ≤ gb164)); have n9_ := ZM ((by rw [hg]; exact Nat.ne_of_lt (blk_lt (g := gb144) (o := .cells #[.slice (some ad145) l0_0.length c0_0, .slice A0_1 l0_1.length c0_1] 27 (0, 0)) (by (with_reducible repeat (first | refine ZR ?_ _ | refine ZS ?_ | refine ZT ?_ _)); refine blk_far ?_ NB144_162.out _; (with_reducible repeat (first | refine ZR ?_ _ | refine ZS ?_ | refine ZT ?_ _)); refine blk_far ?_ NB144_162.out _; (with_reducible repeat (first | refine ZR ?_ _ | refine ZS ?_ | refine ZT ?_ _)); exact BK144.out)) : gb144 ≠ gb164)); have n10_ := ZM ((by rw [hg]; exact Nat.ne_of_gt (blk_lt (g := gb144) (o := .cells #[.slice (some ad145) l0_0.length c0_0, .slice A0_1 l0_1.length c0_1] 27 (0, 0)) (by (with_reducible repeat (first | refine ZR ?_ _ | refine ZS ?_ | refine ZT ?_ _)); refine blk_far ?_ NB144_162.out _; (with_reducible repeat (first | refine ZR ?_ _ | refine ZS ?_ | refine ZT ?_ _)); refine blk_far ?_ NB144_162.out _; (with_reducible repeat (first | refine ZR ?_ _ | refine ZS ?_ | refine ZT ?_ _)); exact BK144.out)) : gb164 ≠ gb144)); have n11_ := ZM ((by rw [hg]; exact Nat.ne_of_lt (blk_lt (g := gb162) (o := .cells #[.int .i64 ((rd_T82 t158 x36_2).f0), .int .i64 ((rd_T82 t158 x36_2).f1)] 82 (0, 0)) (by (with_reducible repeat (first | refine ZR ?_ _ | refine ZS ?_ | refine ZT ?_ _)); refine blk_put (cs := #[.int .i64 ((rd_T82 t158 x36_2).f0), .int .i64 0]) ?_ 1 _ rfl; (with_reducible repeat (first | refine ZR ?_ _ | refine ZS ?_ | refine ZT ?_ _)); refine blk_put (cs := #[.int .i64 0, .int .i64 0]) ?_ 0 _ rfl; (with_reducible repeat (first | refine ZR ?_ _ | refine ZS ?_ | refine ZT ?_ _)); exact BK162.out)) : gb162 ≠ gb164)); have n12_ := ZM ((by rw [hg]; exact Nat.ne_of_gt (blk_lt (g := gb162) (o := .cells #[.int .i64 ((rd_T82 t158 x36_2).f0), .int .i64 ((rd_T82 t158 x36_2).f1)] 82 (0, 0)) (by (with_reducible repeat (first | refine ZR ?_ _ | refine ZS ?_ | refine ZT ?_ _)); refine blk_put (cs := #[.int .i64 ((rd_T82 t158 x36_2).f0), .int .i64 0]) ?_ 1 _ rfl; (with_reducible repeat (first | refine ZR ?_ _ | refine ZS ?_ | refine ZT ?_ _)); refine blk_put (cs := #[.int .i64 0, .int .i64 0]) ?_ 0 _ rfl; (with_reducible repeat (first | refine ZR ?_ _ | refine ZS ?_ | refine ZT ?_ _)); exact BK162.out)) : gb164 ≠ gb162)); clear HO_6; clear HO_7; clear HO_34; clear BK144; clear BK162; clear HB; have HO_6 := n0_; have HO_7 := n1_; have HO_34 := n2_; have BK144 := n3_; have BK162 := n4_; have HB := n5_; have BK164 := n6_; have GW164 := n7_; have GE164 := n8_; have NB144_164 := n9_; have NB164_144 := n10_; have NB162_164 := n11_; have NB164_162 := n12_; clear n0_ n1_ n2_ n3_ n4_ n5_ n6_ n7_ n8_ n9_ n10_ n11_ n12_; clear hb hbox hg; have hnb37 := NB164_144.out; have hnc37 := NB144_164.out; have hnb38 := NB164_162.out; have hnc38 := NB162_164.out; have hcz39_0 : w36.cell? ⟨gb164, 0, none⟩ = some (.int .i64 0) := (ZG BK164.out 0).trans rfl; have hcz39_1 : w36.cell? ⟨gb164, 1, none⟩ = some (.int .i64 0) := (ZG BK164.out 1).trans rfl; have hcz39_2 : w36.cell? ⟨gb164, 2, none⟩ = some (.int .i64 0) := (ZG BK164.out 2).trans rfl; have hcz39_3 : w36.cell? ⟨gb164, 3, none⟩ = some (.int .i64 0) := (ZG BK164.out 3).trans rfl; have hfz39_0 := ZF BK164.out 0; have hfz39_1 := ZF BK164.out 1; have hfz39_2 := ZF BK164.out 2; have hfz39_3 := ZF BK164.out 3; have hcz40_0 : w36.cell? ⟨gb162, 0, none⟩ = some (.int .i64 ((rd_T82 t158 x36_2).f0)) := (ZG BK162.out 0).trans rfl; have hcz40_1 : w36.cell? ⟨gb162, 1, none⟩ = some (.int .i64 ((rd_T82 t158 x36_2).f1)) := (ZG BK162.out 1).trans rfl; have hfz40_0 := ZF BK162.out 0; have hfz40_1 := ZF BK162.out 1; obtain ⟨Ao41, co41, eo41⟩ := Kd.R_slice HO_6.out; subst eo41; have p165 : 0 ≤ (((rd_T82 t158 x36_2).f0) : Int) := ZOD; have q165 : ((rd_T82 t158 x36_2).f0) < (x6_2.length : Int) := ZOD; obtain ⟨ad165, e165, hx165_0⟩ := Kd.at_bool (Kd.R_reads' HO_6.out).2.2 ((rd_T82 t158 x36_2).f0) p165 q165; cases e165; have hn165_0 : ad165.block ≠ gb164 := Kd.own_blk (Kd.R_ne HO_6.out BK164.out (by decide)); have hn165_1 : ad165.block ≠ gb164 := Kd.own_blk (Kd.R_ne HO_6.out BK164.out (by decide)); have hn165_2 : ad165.block ≠ gb164 := Kd.own_blk (Kd.R_ne HO_6.out BK164.out (by decide)); have hn165_3 : ad165.block ≠ gb164 := Kd.own_blk (Kd.R_ne HO_6.out BK164.out (by decide)); replace hx165_0 := (cell_far (p := ⟨gb164, 0, none⟩) (by first | (rw [add_block]; exact hn165_0) | (show (Addr.add _ _).block ≠ _; rw [add_block]; exact hn165_0) | exact hn165_0) (.int .i64 ((rd_T40 l0_0 ((rd_T82 t158 x36_2).f0)).f0))).trans hx165_0; replace hx165_0 := (cell_far (p := ⟨gb164, 1, none⟩) (by first | (rw [add_block]; exact hn165_1) | (show (Addr.add _ _).block ≠ _; rw [add_block]; exact hn165_1) | exact hn165_1) (.int .i64 ((rd_T40 l0_0 ((rd_T82 t158 x36_2).f0)).f1))).trans hx165_0; replace hx165_0 := (cell_far (p := ⟨gb164, 2, none⟩) (by first | (rw [add_block]; exact hn165_2) | (show (Addr.add _ _).block ≠ _; rw [add_block]; exact hn165_2) | exact hn165_2) (.int .i64 ((rd_T40 l0_0 ((rd_T82 t158 x36_2).f0)).f2))).trans hx165_0; replace hx165_0 := (cell_far (p := ⟨gb164, 3, none⟩) (by first | (rw [add_block]; exact hn165_3) | (show (Addr.add _ _).block ≠ _; rw [add_block]; exact hn165_3) | exact hn165_3) (.int .i64 ((rd_T40 l0_0 ((rd_T82 t158 x36_2).f0)).f3))).trans hx165_0; clear hn165_0; clear hn165_1; clear hn165_2; clear hn165_3; replace p165 := eq_true p165; replace q165 := eq_true q165))
       (try simp only [Act.put, ZI, ZJ, ZK])
       go_cut [46] (fun v46 wc => ∃ (kq : Nat) (x46_30 : Bool), v46 = .bool x46_30 ∧ Aside0 (valid_round.j2 kq a1 t146 x6_2 x7_2 t158 (t158.length : Int) x36_2 x46_30 l0_0 l0_1 ((rd_T82 t158 x36_2).f0) ((rd_T82 t158 x36_2).f1) = some r) ∧ Aside0 (kq ≤ k2) ∧ Aside0 (Kd.R Kd.bool 4 wc w.heap.size (fun _ => True) (.slice (some ad165) x6_2.length co41) x6_2) ∧ Aside0 (Kd.Q (Kd.int .i64) 3 wc w.heap.size (fun _ => True) u7 x7_2) ∧ Aside0 (Kd.R k82 82 wc w.heap.size (fun k_ => k_ ≠ gb162) (.slice (some ad161) t158.length co24) t158) ∧ Aside0 (wc.heap[gb144]? = some (.cells #[(.slice (some ad145) l0_0.length c0_0), (.slice A0_1 l0_1.length c0_1)] 27 (0, 0))) ∧ Aside0 (wc.heap[gb162]? = some (.cells #[.int .i64 ((rd_T82 t158 x36_2).f0), .int .i64 ((rd_T82 t158 x36_2).f1)] 82 (0, 0))) ∧ Aside0 (wc.heap[gb164]? = some (.cells #[.int .i64 ((rd_T40 l0_0 ((rd_T82 t158 x36_2).f0)).f0), .int .i64 ((rd_T40 l0_0 ((rd_T82 t158 x36_2).f0)).f1), .int .i64 ((rd_T40 l0_0 ((rd_T82 t158 x36_2).f0)).f2), .int .i64 ((rd_T40 l0_0 ((rd_T82 t158 x36_2).f0)).f3)] 40 (0, 0))) ∧ Aside0 (Below w.heap.size w wc))
       case first =>
        have H := HC31.out
        clear HC31
        obtain ⟨bq42, hbq42⟩ : ∃ b_ : Bool, b_ = (rdOf false x6_2 ((rd_T82 t158 x36_2).f0)) := ⟨_, rfl⟩
        replace H : (if bq42 = true then (valid_round.j2 k2 a1 t146 x6_2 x7_2 t158 (t158.length : Int) x36_2 bq42 l0_0 l0_1 ((rd_T82 t158 x36_2).f0) ((rd_T82 t158 x36_2).f1)) else ((valid_low.f ((rd_T40 l0_0 ((rd_T82 t158 x36_2).f0)).f0) ((rd_T40 l0_0 ((rd_T82 t158 x36_2).f0)).f1) ((rd_T40 l0_0 ((rd_T82 t158 x36_2).f0)).f2) ((rd_T40 l0_0 ((rd_T82 t158 x36_2).f0)).f3)).bind fun t166 => (if t166 < t146 then (valid_round.j2 k2 a1 t146 x6_2 x7_2 t158 (t158.length : Int) x36_2 (decide (t166 < t146)) l0_0 l0_1 ((rd_T82 t158 x36_2).f0) ((rd_T82 t158 x36_2).f1)) else (if ((rd_T40 l0_0 ((rd_T82 t158 x36_2).f0)).f0) = 10 then (valid_round.j2 k2 a1 t146 x6_2 x7_2 t158 (t158.length : Int) x36_2 (((rd_T40 l0_0 ((rd_T82 t158 x36_2).f0)).f3) == t146) l0_0 l0_1 ((rd_T82 t158 x36_2).f0) ((rd_T82 t158 x36_2).f1)) else (valid_round.j2 k2 a1 t146 x6_2 x7_2 t158 (t158.length : Int) x36_2 false l0_0 l0_1 ((rd_T82 t158 x36_2).f0) ((rd_T82 t158 x36_2).f1)))))) = some r := by rw [← hbq42] at H; exact H
        have Nbq42 := ZM hbq42
        clear hbq42
        (try rw [← Nbq42.out])
        by_cases c43 : bq42 = true
        ·subst c43
         have H1 : (valid_round.j2 k2 a1 t146 x6_2 x7_2 t158 (t158.length : Int) x36_2 true l0_0 l0_1 ((rd_T82 t158 x36_2).f0) ((rd_T82 t158 x36_2).f1)) = some r := by rw [if_pos rfl] at H; exact H
         clear H
         have H := H1
         clear H1
         have H' := ZM H
         clear H
         go_wp2
         go_meet
         case rel => exact ⟨_, (true), (by first | rfl | (simp; done) | (simp [*]; done)), H', ⟨by have := HK1.out; have := HK2.out; first | omega | exact Nat.le_refl _⟩, ⟨by (with_reducible repeat (first | apply ZY | apply ZX | apply ZZ)); exact Kd.R_mono (Kd.R_far (p := ⟨gb164, 3, none⟩) (Kd.R_far (p := ⟨gb164, 2, none⟩) (Kd.R_far (p := ⟨gb164, 1, none⟩) (Kd.R_far (p := ⟨gb164, 0, none⟩) (Kd.R_types HO_6.out BK164.out (by decide)) (fun _ hk => hk.2) (.int .i64 ((rd_T40 l0_0 ((rd_T82 t158 x36_2).f0)).f0))) (fun _ hk => hk.2) (.int .i64 ((rd_T40 l0_0 ((rd_T82 t158 x36_2).f0)).f1))) (fun _ hk => hk.2) (.int .i64 ((rd_T40 l0_0 ((rd_T82 t158 x36_2).f0)).f2))) (fun _ hk => hk.2) (.int .i64 ((rd_T40 l0_0 ((rd_T82 t158 x36_2).f0)).f3))) (fun _ hk => trivial)⟩, ⟨by (with_reducible repeat (first | apply Kd.Q_alloc | apply Kd.Q_drewN | apply Kd.Q_drew)); exact Kd.Q_mono (Kd.Q_far (p := ⟨gb164, 3, none⟩) (Kd.Q_far (p := ⟨gb164, 2, none⟩) (Kd.Q_far (p := ⟨gb164, 1, none⟩) (Kd.Q_far (p := ⟨gb164, 0, none⟩) (Kd.Q_types HO_7.out BK164.out (by decide)) (fun _ hk => hk.2) (.int .i64 ((rd_T40 l0_0 ((rd_T82 t158 x36_2).f0)).f0))) (fun _ hk => hk.2) (.int .i64 ((rd_T40 l0_0 ((rd_T82 t158 x36_2).f0)).f1))) (fun _ hk => hk.2) (.int .i64 ((rd_T40 l0_0 ((rd_T82 t158 x36_2).f0)).f2))) (fun _ hk => hk.2) (.int .i64 ((rd_T40 l0_0 ((rd_T82 t158 x36_2).f0)).f3))) (fun _ hk => trivial)⟩, ⟨by (with_reducible repeat (first | apply ZY | apply ZX | apply ZZ)); exact Kd.R_mono (Kd.R_far (p := ⟨gb164, 3, none⟩) (Kd.R_far (p := ⟨gb164, 2, none⟩) (Kd.R_far (p := ⟨gb164, 1, none⟩) (Kd.R_far (p := ⟨gb164, 0, none⟩) (Kd.R_types HO_34.out BK164.out (by decide)) (fun _ hk => hk.2) (.int .i64 ((rd_T40 l0_0 ((rd_T82 t158 x36_2).f0)).f0))) (fun _ hk => hk.2) (.int .i64 ((rd_T40 l0_0 ((rd_T82 t158 x36_2).f0)).f1))) (fun _ hk => hk.2) (.int .i64 ((rd_T40 l0_0 ((rd_T82 t158 x36_2).f0)).f2))) (fun _ hk => hk.2) (.int .i64 ((rd_T40 l0_0 ((rd_T82 t158 x36_2).f0)).f3))) (fun _ hk => hk.1.2)⟩, ⟨by (with_reducible repeat (first | refine ZR ?_ _ | refine ZS ?_ | refine ZT ?_ _)); refine blk_far ?_ NB144_164.out _; (with_reducible repeat (first | refine ZR ?_ _ | refine ZS ?_ | refine ZT ?_ _)); refine blk_far ?_ NB144_164.out _; (with_reducible repeat (first | refine ZR ?_ _ | refine ZS ?_ | refine ZT ?_ _)); refine blk_far ?_ NB144_164.out _; (with_reducible repeat (first | refine ZR ?_ _ | refine ZS ?_ | refine ZT ?_ _)); refine blk_far ?_ NB144_164.out _; (with_reducible repeat (first | refine ZR ?_ _ | refine ZS ?_ | refine ZT ?_ _)); exact BK144.out⟩, ⟨by (with_reducible repeat (first | refine ZR ?_ _ | refine ZS ?_ | refine ZT ?_ _)); refine blk_far ?_ NB162_164.out _; (with_reducible repeat (first | refine ZR ?_ _ | refine ZS ?_ | refine ZT ?_ _)); refine blk_far ?_ NB162_164.out _; (with_reducible repeat (first | refine ZR ?_ _ | refine ZS ?_ | refine ZT ?_ _)); refine blk_far ?_ NB162_164.out _; (with_reducible repeat (first | refine ZR ?_ _ | refine ZS ?_ | refine ZT ?_ _)); refine blk_far ?_ NB162_164.out _; (with_reducible repeat (first | refine ZR ?_ _ | refine ZS ?_ | refine ZT ?_ _)); exact BK162.out⟩, ⟨by (with_reducible repeat (first | refine ZR ?_ _ | refine ZS ?_ | refine ZT ?_ _)); refine blk_put (cs := #[.int .i64 ((rd_T40 l0_0 ((rd_T82 t158 x36_2).f0)).f0), .int .i64 ((rd_T40 l0_0 ((rd_T82 t158 x36_2).f0)).f1), .int .i64 ((rd_T40 l0_0 ((rd_T82 t158 x36_2).f0)).f2), .int .i64 0]) ?_ 3 _ rfl; (with_reducible repeat (first | refine ZR ?_ _ | refine ZS ?_ | refine ZT ?_ _)); refine blk_put (cs := #[.int .i64 ((rd_T40 l0_0 ((rd_T82 t158 x36_2).f0)).f0), .int .i64 ((rd_T40 l0_0 ((rd_T82 t158 x36_2).f0)).f1), .int .i64 0, .int .i64 0]) ?_ 2 _ rfl; (with_reducible repeat (first | refine ZR ?_ _ | refine ZS ?_ | refine ZT ?_ _)); refine blk_put (cs := #[.int .i64 ((rd_T40 l0_0 ((rd_T82 t158 x36_2).f0)).f0), .int .i64 0, .int .i64 0, .int .i64 0]) ?_ 1 _ rfl; (with_reducible repeat (first | refine ZR ?_ _ | refine ZS ?_ | refine ZT ?_ _)); refine blk_put (cs := #[.int .i64 0, .int .i64 0, .int .i64 0, .int .i64 0]) ?_ 0 _ rfl; (with_reducible repeat (first | refine ZR ?_ _ | refine ZS ?_ | refine ZT ?_ _)); exact BK164.out⟩, ⟨ZBB HB.out⟩⟩
        ·replace c43 := Bool.eq_false_iff.mpr c43
         subst c43
         have H1 : ((valid_low.f ((rd_T40 l0_0 ((rd_T82 t158 x36_2).f0)).f0) ((rd_T40 l0_0 ((rd_T82 t158 x36_2).f0)).f1) ((rd_T40 l0_0 ((rd_T82 t158 x36_2).f0)).f2) ((rd_T40 l0_0 ((rd_T82 t158 x36_2).f0)).f3)).bind fun t166 => (if t166 < t146 then (valid_round.j2 k2 a1 t146 x6_2 x7_2 t158 (t158.length : Int) x36_2 (decide (t166 < t146)) l0_0 l0_1 ((rd_T82 t158 x36_2).f0) ((rd_T82 t158 x36_2).f1)) else (if ((rd_T40 l0_0 ((rd_T82 t158 x36_2).f0)).f0) = 10 then (valid_round.j2 k2 a1 t146 x6_2 x7_2 t158 (t158.length : Int) x36_2 (((rd_T40 l0_0 ((rd_T82 t158 x36_2).f0)).f3) == t146) l0_0 l0_1 ((rd_T82 t158 x36_2).f0) ((rd_T82 t158 x36_2).f1)) else (valid_round.j2 k2 a1 t146 x6_2 x7_2 t158 (t158.length : Int) x36_2 false l0_0 l0_1 ((rd_T82 t158 x36_2).f0) ((rd_T82 t158 x36_2).f1))))) = some r := by rw [if_neg (show ¬ (false = true) by decide)] at H; exact H
         clear H
         have H := H1
         clear H1
         replace H := Option.bind_eq_some_iff.mp H
         obtain ⟨t166, A440, H⟩ := H
         replace H : (if t166 < t146 then (valid_round.j2 k2 a1 t146 x6_2 x7_2 t158 (t158.length : Int) x36_2 (decide (t166 < t146)) l0_0 l0_1 ((rd_T82 t158 x36_2).f0) ((rd_T82 t158 x36_2).f1)) else (if ((rd_T40 l0_0 ((rd_T82 t158 x36_2).f0)).f0) = 10 then (valid_round.j2 k2 a1 t146 x6_2 x7_2 t158 (t158.length : Int) x36_2 (((rd_T40 l0_0 ((rd_T82 t158 x36_2).f0)).f3) == t146) l0_0 l0_1 ((rd_T82 t158 x36_2).f0) ((rd_T82 t158 x36_2).f1)) else (valid_round.j2 k2 a1 t146 x6_2 x7_2 t158 (t158.length : Int) x36_2 false l0_0 l0_1 ((rd_T82 t158 x36_2).f0) ((rd_T82 t158 x36_2).f1)))) = some r := H
         have A44 := ZM A440
         clear A440
         by_cases c45 : t166 < t146
         ·rw [if_pos c45] at H
          have c45b0 : decide (t166 < t146) = true := decide_eq_true c45
          clear c45
          have H' := ZM H
          clear H
          have hnb46 := NB164_144.out
          have hnc46 := NB144_164.out
          have hnb47 := NB164_162.out
          have hnc47 := NB162_164.out
          have hcz48_0 : w36.cell? ⟨gb164, 0, none⟩ = some (.int .i64 0) := (ZG BK164.out 0).trans rfl
          have hcz48_1 : w36.cell? ⟨gb164, 1, none⟩ = some (.int .i64 0) := (ZG BK164.out 1).trans rfl
          have hcz48_2 : w36.cell? ⟨gb164, 2, none⟩ = some (.int .i64 0) := (ZG BK164.out 2).trans rfl
          have hcz48_3 : w36.cell? ⟨gb164, 3, none⟩ = some (.int .i64 0) := (ZG BK164.out 3).trans rfl
          have hfz48_0 := ZF BK164.out 0
          have hfz48_1 := ZF BK164.out 1
          have hfz48_2 := ZF BK164.out 2
          have hfz48_3 := ZF BK164.out 3
          go_wp2_with (first | ((with_reducible refine gate_callee (f := 84) rfl ?_); refine goesL_ (some 53) rfl rfl Tryd.func84 (by kernel_rfl) rfl #[.agg #[.int .i64 ((rd_T40 l0_0 ((rd_T82 t158 x36_2).f0)).f0), .int .i64 ((rd_T40 l0_0 ((rd_T82 t158 x36_2).f0)).f1), .int .i64 ((rd_T40 l0_0 ((rd_T82 t158 x36_2).f0)).f2), .int .i64 ((rd_T40 l0_0 ((rd_T82 t158 x36_2).f0)).f3)]] rfl ZH ?_; (with_reducible refine (valid_low.calls ((rd_T40 l0_0 ((rd_T82 t158 x36_2).f0)).f0) ((rd_T40 l0_0 ((rd_T82 t158 x36_2).f0)).f1) ((rd_T40 l0_0 ((rd_T82 t158 x36_2).f0)).f2) ((rd_T40 l0_0 ((rd_T82 t158 x36_2).f0)).f3) t166 _ A44.out).mono ?_); rintro e w49 ⟨rfl, hb⟩; refine ⟨_, rfl, ?_⟩; have n0_ := ZM (Kd.R_below (by (with_reducible repeat (first | apply ZY | apply ZX | apply ZZ)); exact (Kd.R_mono (Kd.R_far (p := ⟨gb164, 3, none⟩) (Kd.R_far (p := ⟨gb164, 2, none⟩) (Kd.R_far (p := ⟨gb164, 1, none⟩) (Kd.R_far (p := ⟨gb164, 0, none⟩) (Kd.R_types HO_6.out BK164.out (by decide)) (fun _ hk => hk.2) (.int .i64 ((rd_T40 l0_0 ((rd_T82 t158 x36_2).f0)).f0))) (fun _ hk => hk.2) (.int .i64 ((rd_T40 l0_0 ((rd_T82 t158 x36_2).f0)).f1))) (fun _ hk => hk.2) (.int .i64 ((rd_T40 l0_0 ((rd_T82 t158 x36_2).f0)).f2))) (fun _ hk => hk.2) (.int .i64 ((rd_T40 l0_0 ((rd_T82 t158 x36_2).f0)).f3))) (fun _ h_ => h_.1))) hb); have n1_ := ZM (Kd.Q_below (by (with_reducible repeat (first | apply Kd.Q_alloc | apply Kd.Q_drewN | apply Kd.Q_drew)); exact (Kd.Q_mono (Kd.Q_far (p := ⟨gb164, 3, none⟩) (Kd.Q_far (p := ⟨gb164, 2, none⟩) (Kd.Q_far (p := ⟨gb164, 1, none⟩) (Kd.Q_far (p := ⟨gb164, 0, none⟩) (Kd.Q_types HO_7.out BK164.out (by decide)) (fun _ hk => hk.2) (.int .i64 ((rd_T40 l0_0 ((rd_T82 t158 x36_2).f0)).f0))) (fun _ hk => hk.2) (.int .i64 ((rd_T40 l0_0 ((rd_T82 t158 x36_2).f0)).f1))) (fun _ hk => hk.2) (.int .i64 ((rd_T40 l0_0 ((rd_T82 t158 x36_2).f0)).f2))) (fun _ hk => hk.2) (.int .i64 ((rd_T40 l0_0 ((rd_T82 t158 x36_2).f0)).f3))) (fun _ h_ => h_.1))) hb); have n2_ := ZM (Kd.R_below (by (with_reducible repeat (first | apply ZY | apply ZX | apply ZZ)); exact (Kd.R_mono (Kd.R_far (p := ⟨gb164, 3, none⟩) (Kd.R_far (p := ⟨gb164, 2, none⟩) (Kd.R_far (p := ⟨gb164, 1, none⟩) (Kd.R_far (p := ⟨gb164, 0, none⟩) (Kd.R_types HO_34.out BK164.out (by decide)) (fun _ hk => hk.2) (.int .i64 ((rd_T40 l0_0 ((rd_T82 t158 x36_2).f0)).f0))) (fun _ hk => hk.2) (.int .i64 ((rd_T40 l0_0 ((rd_T82 t158 x36_2).f0)).f1))) (fun _ hk => hk.2) (.int .i64 ((rd_T40 l0_0 ((rd_T82 t158 x36_2).f0)).f2))) (fun _ hk => hk.2) (.int .i64 ((rd_T40 l0_0 ((rd_T82 t158 x36_2).f0)).f3))) (fun _ h_ => h_.1))) hb); have n3_ := ZM (blk_below (g := gb144) (o := .cells #[.slice (some ad145) l0_0.length c0_0, .slice A0_1 l0_1.length c0_1] 27 (0, 0)) (by (with_reducible repeat (first | refine ZR ?_ _ | refine ZS ?_ | refine ZT ?_ _)); refine blk_far ?_ NB144_164.out _; (with_reducible repeat (first | refine ZR ?_ _ | refine ZS ?_ | refine ZT ?_ _)); refine blk_far ?_ NB144_164.out _; (with_reducible repeat (first | refine ZR ?_ _ | refine ZS ?_ | refine ZT ?_ _)); refine blk_far ?_ NB144_164.out _; (with_reducible repeat (first | refine ZR ?_ _ | refine ZS ?_ | refine ZT ?_ _)); refine blk_far ?_ NB144_164.out _; (with_reducible repeat (first | refine ZR ?_ _ | refine ZS ?_ | refine ZT ?_ _)); exact BK144.out) hb); have n4_ := ZM (blk_below (g := gb162) (o := .cells #[.int .i64 ((rd_T82 t158 x36_2).f0), .int .i64 ((rd_T82 t158 x36_2).f1)] 82 (0, 0)) (by (with_reducible repeat (first | refine ZR ?_ _ | refine ZS ?_ | refine ZT ?_ _)); refine blk_far ?_ NB162_164.out _; (with_reducible repeat (first | refine ZR ?_ _ | refine ZS ?_ | refine ZT ?_ _)); refine blk_far ?_ NB162_164.out _; (with_reducible repeat (first | refine ZR ?_ _ | refine ZS ?_ | refine ZT ?_ _)); refine blk_far ?_ NB162_164.out _; (with_reducible repeat (first | refine ZR ?_ _ | refine ZS ?_ | refine ZT ?_ _)); refine blk_far ?_ NB162_164.out _; (with_reducible repeat (first | refine ZR ?_ _ | refine ZS ?_ | refine ZT ?_ _)); exact BK162.out) hb); have n5_ := ZM (blk_below (g := gb164) (o := .cells #[.int .i64 ((rd_T40 l0_0 ((rd_T82 t158 x36_2).f0)).f0), .int .i64 ((rd_T40 l0_0 ((rd_T82 t158 x36_2).f0)).f1), .int .i64 ((rd_T40 l0_0 ((rd_T82 t158 x36_2).f0)).f2), .int .i64 ((rd_T40 l0_0 ((rd_T82 t158 x36_2).f0)).f3)] 40 (0, 0)) (by (with_reducible repeat (first | refine ZR ?_ _ | refine ZS ?_ | refine ZT ?_ _)); refine blk_put (cs := #[.int .i64 ((rd_T40 l0_0 ((rd_T82 t158 x36_2).f0)).f0), .int .i64 ((rd_T40 l0_0 ((rd_T82 t158 x36_2).f0)).f1), .int .i64 ((rd_T40 l0_0 ((rd_T82 t158 x36_2).f0)).f2), .int .i64 0]) ?_ 3 _ rfl; (with_reducible repeat (first | refine ZR ?_ _ | refine ZS ?_ | refine ZT ?_ _)); refine blk_put (cs := #[.int .i64 ((rd_T40 l0_0 ((rd_T82 t158 x36_2).f0)).f0), .int .i64 ((rd_T40 l0_0 ((rd_T82 t158 x36_2).f0)).f1), .int .i64 0, .int .i64 0]) ?_ 2 _ rfl; (with_reducible repeat (first | refine ZR ?_ _ | refine ZS ?_ | refine ZT ?_ _)); refine blk_put (cs := #[.int .i64 ((rd_T40 l0_0 ((rd_T82 t158 x36_2).f0)).f0), .int .i64 0, .int .i64 0, .int .i64 0]) ?_ 1 _ rfl; (with_reducible repeat (first | refine ZR ?_ _ | refine ZS ?_ | refine ZT ?_ _)); refine blk_put (cs := #[.int .i64 0, .int .i64 0, .int .i64 0, .int .i64 0]) ?_ 0 _ rfl; (with_reducible repeat (first | refine ZR ?_ _ | refine ZS ?_ | refine ZT ?_ _)); exact BK164.out) hb); have n6_ := ZM (ZW (ZBB HB.out) hb); clear HO_6; clear HO_7; clear HO_34; clear BK144; clear BK162; clear BK164; clear HB; have HO_6 := n0_; have HO_7 := n1_; have HO_34 := n2_; have BK144 := n3_; have BK162 := n4_; have BK164 := n5_; have HB := n6_; clear n0_ n1_ n2_ n3_ n4_ n5_ n6_; (try clear hb); (try clear hb2); (try clear hk); (try clear hi)))
          go_meet
          case rel => exact ⟨_, (decide (t166 < t146)), (by first | rfl | (simp; done) | (simp [*]; done)), H', ⟨by have := HK1.out; have := HK2.out; first | omega | exact Nat.le_refl _⟩, ⟨ZRK HO_6.out⟩, ⟨by (with_reducible repeat (first | apply Kd.Q_alloc | apply Kd.Q_drewN | apply Kd.Q_drew)); exact HO_7.out⟩, ⟨by (with_reducible repeat (first | apply ZY | apply ZX | apply ZZ)); exact Kd.R_mono HO_34.out (fun _ hk => hk.2)⟩, ⟨ZBK BK144.out⟩, ⟨ZBK BK162.out⟩, ⟨ZBK BK164.out⟩, ⟨ZBB HB.out⟩⟩
         ·rw [if_neg c45] at H
          have c45b0 : decide (t166 < t146) = false := decide_eq_false c45
          clear c45
          by_cases c50 : ((rd_T40 l0_0 ((rd_T82 t158 x36_2).f0)).f0) = 10
          ·rw [if_pos c50] at H
           have c50b0 : (((rd_T40 l0_0 ((rd_T82 t158 x36_2).f0)).f0) == 10) = true := beq_iff_eq.mpr c50
           have c50b1 : (((rd_T40 l0_0 ((rd_T82 t158 x36_2).f0)).f0) != 10) = false := bne_eq_false_iff_eq.mpr c50
           clear c50
           have H' := ZM H
           clear H
           have hnb51 := NB164_144.out
           have hnc51 := NB144_164.out
           have hnb52 := NB164_162.out
           have hnc52 := NB162_164.out
           have hcz53_0 : w36.cell? ⟨gb164, 0, none⟩ = some (.int .i64 0) := (ZG BK164.out 0).trans rfl
           have hcz53_1 : w36.cell? ⟨gb164, 1, none⟩ = some (.int .i64 0) := (ZG BK164.out 1).trans rfl
           have hcz53_2 : w36.cell? ⟨gb164, 2, none⟩ = some (.int .i64 0) := (ZG BK164.out 2).trans rfl
           have hcz53_3 : w36.cell? ⟨gb164, 3, none⟩ = some (.int .i64 0) := (ZG BK164.out 3).trans rfl
           have hfz53_0 := ZF BK164.out 0
           have hfz53_1 := ZF BK164.out 1
           have hfz53_2 := ZF BK164.out 2
           have hfz53_3 := ZF BK164.out 3
           go_wp2_with (first | ((with_reducible refine gate_callee (f := 84) rfl ?_); refine goesL_ (some 53) rfl rfl Tryd.func84 (by kernel_rfl) rfl #[.agg #[.int .i64 ((rd_T40 l0_0 ((rd_T82 t158 x36_2).f0)).f0), .int .i64 ((rd_T40 l0_0 ((rd_T82 t158 x36_2).f0)).f1), .int .i64 ((rd_T40 l0_0 ((rd_T82 t158 x36_2).f0)).f2), .int .i64 ((rd_T40 l0_0 ((rd_T82 t158 x36_2).f0)).f3)]] rfl ZH ?_; (with_reducible refine (valid_low.calls ((rd_T40 l0_0 ((rd_T82 t158 x36_2).f0)).f0) ((rd_T40 l0_0 ((rd_T82 t158 x36_2).f0)).f1) ((rd_T40 l0_0 ((rd_T82 t158 x36_2).f0)).f2) ((rd_T40 l0_0 ((rd_T82 t158 x36_2).f0)).f3) t166 _ A44.out).mono ?_); rintro e w54 ⟨rfl, hb⟩; refine ⟨_, rfl, ?_⟩; have n0_ := ZM (Kd.R_below (by (with_reducible repeat (first | apply ZY | apply ZX | apply ZZ)); exact (Kd.R_mono (Kd.R_far (p := ⟨gb164, 3, none⟩) (Kd.R_far (p := ⟨gb164, 2, none⟩) (Kd.R_far (p := ⟨gb164, 1, none⟩) (Kd.R_far (p := ⟨gb164, 0, none⟩) (Kd.R_types HO_6.out BK164.out (by decide)) (fun _ hk => hk.2) (.int .i64 ((rd_T40 l0_0 ((rd_T82 t158 x36_2).f0)).f0))) (fun _ hk => hk.2) (.int .i64 ((rd_T40 l0_0 ((rd_T82 t158 x36_2).f0)).f1))) (fun _ hk => hk.2) (.int .i64 ((rd_T40 l0_0 ((rd_T82 t158 x36_2).f0)).f2))) (fun _ hk => hk.2) (.int .i64 ((rd_T40 l0_0 ((rd_T82 t158 x36_2).f0)).f3))) (fun _ h_ => h_.1))) hb); have n1_ := ZM (Kd.Q_below (by (with_reducible repeat (first | apply Kd.Q_alloc | apply Kd.Q_drewN | apply Kd.Q_drew)); exact (Kd.Q_mono (Kd.Q_far (p := ⟨gb164, 3, none⟩) (Kd.Q_far (p := ⟨gb164, 2, none⟩) (Kd.Q_far (p := ⟨gb164, 1, none⟩) (Kd.Q_far (p := ⟨gb164, 0, none⟩) (Kd.Q_types HO_7.out BK164.out (by decide)) (fun _ hk => hk.2) (.int .i64 ((rd_T40 l0_0 ((rd_T82 t158 x36_2).f0)).f0))) (fun _ hk => hk.2) (.int .i64 ((rd_T40 l0_0 ((rd_T82 t158 x36_2).f0)).f1))) (fun _ hk => hk.2) (.int .i64 ((rd_T40 l0_0 ((rd_T82 t158 x36_2).f0)).f2))) (fun _ hk => hk.2) (.int .i64 ((rd_T40 l0_0 ((rd_T82 t158 x36_2).f0)).f3))) (fun _ h_ => h_.1))) hb); have n2_ := ZM (Kd.R_below (by (with_reducible repeat (first | apply ZY | apply ZX | apply ZZ)); exact (Kd.R_mono (Kd.R_far (p := ⟨gb164, 3, none⟩) (Kd.R_far (p := ⟨gb164, 2, none⟩) (Kd.R_far (p := ⟨gb164, 1, none⟩) (Kd.R_far (p := ⟨gb164, 0, none⟩) (Kd.R_types HO_34.out BK164.out (by decide)) (fun _ hk => hk.2) (.int .i64 ((rd_T40 l0_0 ((rd_T82 t158 x36_2).f0)).f0))) (fun _ hk => hk.2) (.int .i64 ((rd_T40 l0_0 ((rd_T82 t158 x36_2).f0)).f1))) (fun _ hk => hk.2) (.int .i64 ((rd_T40 l0_0 ((rd_T82 t158 x36_2).f0)).f2))) (fun _ hk => hk.2) (.int .i64 ((rd_T40 l0_0 ((rd_T82 t158 x36_2).f0)).f3))) (fun _ h_ => h_.1))) hb); have n3_ := ZM (blk_below (g := gb144) (o := .cells #[.slice (some ad145) l0_0.length c0_0, .slice A0_1 l0_1.length c0_1] 27 (0, 0)) (by (with_reducible repeat (first | refine ZR ?_ _ | refine ZS ?_ | refine ZT ?_ _)); refine blk_far ?_ NB144_164.out _; (with_reducible repeat (first | refine ZR ?_ _ | refine ZS ?_ | refine ZT ?_ _)); refine blk_far ?_ NB144_164.out _; (with_reducible repeat (first | refine ZR ?_ _ | refine ZS ?_ | refine ZT ?_ _)); refine blk_far ?_ NB144_164.out _; (with_reducible repeat (first | refine ZR ?_ _ | refine ZS ?_ | refine ZT ?_ _)); refine blk_far ?_ NB144_164.out _; (with_reducible repeat (first | refine ZR ?_ _ | refine ZS ?_ | refine ZT ?_ _)); exact BK144.out) hb); have n4_ := ZM (blk_below (g := gb162) (o := .cells #[.int .i64 ((rd_T82 t158 x36_2).f0), .int .i64 ((rd_T82 t158 x36_2).f1)] 82 (0, 0)) (by (with_reducible repeat (first | refine ZR ?_ _ | refine ZS ?_ | refine ZT ?_ _)); refine blk_far ?_ NB162_164.out _; (with_reducible repeat (first | refine ZR ?_ _ | refine ZS ?_ | refine ZT ?_ _)); refine blk_far ?_ NB162_164.out _; (with_reducible repeat (first | refine ZR ?_ _ | refine ZS ?_ | refine ZT ?_ _)); refine blk_far ?_ NB162_164.out _; (with_reducible repeat (first | refine ZR ?_ _ | refine ZS ?_ | refine ZT ?_ _)); refine blk_far ?_ NB162_164.out _; (with_reducible repeat (first | refine ZR ?_ _ | refine ZS ?_ | refine ZT ?_ _)); exact BK162.out) hb); have n5_ := ZM (blk_below (g := gb164) (o := .cells #[.int .i64 ((rd_T40 l0_0 ((rd_T82 t158 x36_2).f0)).f0), .int .i64 ((rd_T40 l0_0 ((rd_T82 t158 x36_2).f0)).f1), .int .i64 ((rd_T40 l0_0 ((rd_T82 t158 x36_2).f0)).f2), .int .i64 ((rd_T40 l0_0 ((rd_T82 t158 x36_2).f0)).f3)] 40 (0, 0)) (by (with_reducible repeat (first | refine ZR ?_ _ | refine ZS ?_ | refine ZT ?_ _)); refine blk_put (cs := #[.int .i64 ((rd_T40 l0_0 ((rd_T82 t158 x36_2).f0)).f0), .int .i64 ((rd_T40 l0_0 ((rd_T82 t158 x36_2).f0)).f1), .int .i64 ((rd_T40 l0_0 ((rd_T82 t158 x36_2).f0)).f2), .int .i64 0]) ?_ 3 _ rfl; (with_reducible repeat (first | refine ZR ?_ _ | refine ZS ?_ | refine ZT ?_ _)); refine blk_put (cs := #[.int .i64 ((rd_T40 l0_0 ((rd_T82 t158 x36_2).f0)).f0), .int .i64 ((rd_T40 l0_0 ((rd_T82 t158 x36_2).f0)).f1), .int .i64 0, .int .i64 0]) ?_ 2 _ rfl; (with_reducible repeat (first | refine ZR ?_ _ | refine ZS ?_ | refine ZT ?_ _)); refine blk_put (cs := #[.int .i64 ((rd_T40 l0_0 ((rd_T82 t158 x36_2).f0)).f0), .int .i64 0, .int .i64 0, .int .i64 0]) ?_ 1 _ rfl; (with_reducible repeat (first | refine ZR ?_ _ | refine ZS ?_ | refine ZT ?_ _)); refine blk_put (cs := #[.int .i64 0, .int .i64 0, .int .i64 0, .int .i64 0]) ?_ 0 _ rfl; (with_reducible repeat (first | refine ZR ?_ _ | refine ZS ?_ | refine ZT ?_ _)); exact BK164.out) hb); have n6_ := ZM (ZW (ZBB HB.out) hb); clear HO_6; clear HO_7; clear HO_34; clear BK144; clear BK162; clear BK164; clear HB; have HO_6 := n0_; have HO_7 := n1_; have HO_34 := n2_; have BK144 := n3_; have BK162 := n4_; have BK164 := n5_; have HB := n6_; clear n0_ n1_ n2_ n3_ n4_ n5_ n6_; (try clear hb); (try clear hb2); (try clear hk); (try clear hi); have hcz55_0 : w54.cell? ⟨gb164, 0, none⟩ = some (.int .i64 ((rd_T40 l0_0 ((rd_T82 t158 x36_2).f0)).f0)) := (ZG BK164.out 0).trans rfl; have hcz55_1 : w54.cell? ⟨gb164, 1, none⟩ = some (.int .i64 ((rd_T40 l0_0 ((rd_T82 t158 x36_2).f0)).f1)) := (ZG BK164.out 1).trans rfl; have hcz55_2 : w54.cell? ⟨gb164, 2, none⟩ = some (.int .i64 ((rd_T40 l0_0 ((rd_T82 t158 x36_2).f0)).f2)) := (ZG BK164.out 2).trans rfl; have hcz55_3 : w54.cell? ⟨gb164, 3, none⟩ = some (.int .i64 ((rd_T40 l0_0 ((rd_T82 t158 x36_2).f0)).f3)) := (ZG BK164.out 3).trans rfl; have hfz55_0 := ZF BK164.out 0; have hfz55_1 := ZF BK164.out 1; have hfz55_2 := ZF BK164.out 2; have hfz55_3 := ZF BK164.out 3))
           go_meet
           case rel => exact ⟨_, ((((rd_T40 l0_0 ((rd_T82 t158 x36_2).f0)).f3) == t146)), (by first | rfl | (simp; done) | (simp [*]; done)), H', ⟨by have := HK1.out; have := HK2.out; first | omega | exact Nat.le_refl _⟩, ⟨ZRK HO_6.out⟩, ⟨by (with_reducible repeat (first | apply Kd.Q_alloc | apply Kd.Q_drewN | apply Kd.Q_drew)); exact HO_7.out⟩, ⟨by (with_reducible repeat (first | apply ZY | apply ZX | apply ZZ)); exact Kd.R_mono HO_34.out (fun _ hk => hk.2)⟩, ⟨ZBK BK144.out⟩, ⟨ZBK BK162.out⟩, ⟨ZBK BK164.out⟩, ⟨ZBB HB.out⟩⟩
          ·rw [if_neg c50] at H
           have c50b0 : (((rd_T40 l0_0 ((rd_T82 t158 x36_2).f0)).f0) == 10) = false := beq_eq_false_iff_ne.mpr c50
           have c50b1 : (((rd_T40 l0_0 ((rd_T82 t158 x36_2).f0)).f0) != 10) = true := bne_iff_ne.mpr c50
           have H' := ZM H
           clear H
           have hnb56 := NB164_144.out
           have hnc56 := NB144_164.out
           have hnb57 := NB164_162.out
           have hnc57 := NB162_164.out
           have hcz58_0 : w36.cell? ⟨gb164, 0, none⟩ = some (.int .i64 0) := (ZG BK164.out 0).trans rfl
           have hcz58_1 : w36.cell? ⟨gb164, 1, none⟩ = some (.int .i64 0) := (ZG BK164.out 1).trans rfl
           have hcz58_2 : w36.cell? ⟨gb164, 2, none⟩ = some (.int .i64 0) := (ZG BK164.out 2).trans rfl
           have hcz58_3 : w36.cell? ⟨gb164, 3, none⟩ = some (.int .i64 0) := (ZG BK164.out 3).trans rfl
           have hfz58_0 := ZF BK164.out 0
           have hfz58_1 := ZF BK164.out 1
           have hfz58_2 := ZF BK164.out 2
           have hfz58_3 := ZF BK164.out 3
           go_wp2_with (first | ((with_reducible refine gate_callee (f := 84) rfl ?_); refine goesL_ (some 53) rfl rfl Tryd.func84 (by kernel_rfl) rfl #[.agg #[.int .i64 ((rd_T40 l0_0 ((rd_T82 t158 x36_2).f0)).f0), .int .i64 ((rd_T40 l0_0 ((rd_T82 t158 x36_2).f0)).f1), .int .i64 ((rd_T40 l0_0 ((rd_T82 t158 x36_2).f0)).f2), .int .i64 ((rd_T40 l0_0 ((rd_T82 t158 x36_2).f0)).f3)]] rfl ZH ?_; (with_reducible refine (valid_low.calls ((rd_T40 l0_0 ((rd_T82 t158 x36_2).f0)).f0) ((rd_T40 l0_0 ((rd_T82 t158 x36_2).f0)).f1) ((rd_T40 l0_0 ((rd_T82 t158 x36_2).f0)).f2) ((rd_T40 l0_0 ((rd_T82 t158 x36_2).f0)).f3) t166 _ A44.out).mono ?_); rintro e w59 ⟨rfl, hb⟩; refine ⟨_, rfl, ?_⟩; have n0_ := ZM (Kd.R_below (by (with_reducible repeat (first | apply ZY | apply ZX | apply ZZ)); exact (Kd.R_mono (Kd.R_far (p := ⟨gb164, 3, none⟩) (Kd.R_far (p := ⟨gb164, 2, none⟩) (Kd.R_far (p := ⟨gb164, 1, none⟩) (Kd.R_far (p := ⟨gb164, 0, none⟩) (Kd.R_types HO_6.out BK164.out (by decide)) (fun _ hk => hk.2) (.int .i64 ((rd_T40 l0_0 ((rd_T82 t158 x36_2).f0)).f0))) (fun _ hk => hk.2) (.int .i64 ((rd_T40 l0_0 ((rd_T82 t158 x36_2).f0)).f1))) (fun _ hk => hk.2) (.int .i64 ((rd_T40 l0_0 ((rd_T82 t158 x36_2).f0)).f2))) (fun _ hk => hk.2) (.int .i64 ((rd_T40 l0_0 ((rd_T82 t158 x36_2).f0)).f3))) (fun _ h_ => h_.1))) hb); have n1_ := ZM (Kd.Q_below (by (with_reducible repeat (first | apply Kd.Q_alloc | apply Kd.Q_drewN | apply Kd.Q_drew)); exact (Kd.Q_mono (Kd.Q_far (p := ⟨gb164, 3, none⟩) (Kd.Q_far (p := ⟨gb164, 2, none⟩) (Kd.Q_far (p := ⟨gb164, 1, none⟩) (Kd.Q_far (p := ⟨gb164, 0, none⟩) (Kd.Q_types HO_7.out BK164.out (by decide)) (fun _ hk => hk.2) (.int .i64 ((rd_T40 l0_0 ((rd_T82 t158 x36_2).f0)).f0))) (fun _ hk => hk.2) (.int .i64 ((rd_T40 l0_0 ((rd_T82 t158 x36_2).f0)).f1))) (fun _ hk => hk.2) (.int .i64 ((rd_T40 l0_0 ((rd_T82 t158 x36_2).f0)).f2))) (fun _ hk => hk.2) (.int .i64 ((rd_T40 l0_0 ((rd_T82 t158 x36_2).f0)).f3))) (fun _ h_ => h_.1))) hb); have n2_ := ZM (Kd.R_below (by (with_reducible repeat (first | apply ZY | apply ZX | apply ZZ)); exact (Kd.R_mono (Kd.R_far (p := ⟨gb164, 3, none⟩) (Kd.R_far (p := ⟨gb164, 2, none⟩) (Kd.R_far (p := ⟨gb164, 1, none⟩) (Kd.R_far (p := ⟨gb164, 0, none⟩) (Kd.R_types HO_34.out BK164.out (by decide)) (fun _ hk => hk.2) (.int .i64 ((rd_T40 l0_0 ((rd_T82 t158 x36_2).f0)).f0))) (fun _ hk => hk.2) (.int .i64 ((rd_T40 l0_0 ((rd_T82 t158 x36_2).f0)).f1))) (fun _ hk => hk.2) (.int .i64 ((rd_T40 l0_0 ((rd_T82 t158 x36_2).f0)).f2))) (fun _ hk => hk.2) (.int .i64 ((rd_T40 l0_0 ((rd_T82 t158 x36_2).f0)).f3))) (fun _ h_ => h_.1))) hb); have n3_ := ZM (blk_below (g := gb144) (o := .cells #[.slice (some ad145) l0_0.length c0_0, .slice A0_1 l0_1.length c0_1] 27 (0, 0)) (by (with_reducible repeat (first | refine ZR ?_ _ | refine ZS ?_ | refine ZT ?_ _)); refine blk_far ?_ NB144_164.out _; (with_reducible repeat (first | refine ZR ?_ _ | refine ZS ?_ | refine ZT ?_ _)); refine blk_far ?_ NB144_164.out _; (with_reducible repeat (first | refine ZR ?_ _ | refine ZS ?_ | refine ZT ?_ _)); refine blk_far ?_ NB144_164.out _; (with_reducible repeat (first | refine ZR ?_ _ | refine ZS ?_ | refine ZT ?_ _)); refine blk_far ?_ NB144_164.out _; (with_reducible repeat (first | refine ZR ?_ _ | refine ZS ?_ | refine ZT ?_ _)); exact BK144.out) hb); have n4_ := ZM (blk_below (g := gb162) (o := .cells #[.int .i64 ((rd_T82 t158 x36_2).f0), .int .i64 ((rd_T82 t158 x36_2).f1)] 82 (0, 0)) (by (with_reducible repeat (first | refine ZR ?_ _ | refine ZS ?_ | refine ZT ?_ _)); refine blk_far ?_ NB162_164.out _; (with_reducible repeat (first | refine ZR ?_ _ | refine ZS ?_ | refine ZT ?_ _)); refine blk_far ?_ NB162_164.out _; (with_reducible repeat (first | refine ZR ?_ _ | refine ZS ?_ | refine ZT ?_ _)); refine blk_far ?_ NB162_164.out _; (with_reducible repeat (first | refine ZR ?_ _ | refine ZS ?_ | refine ZT ?_ _)); refine blk_far ?_ NB162_164.out _; (with_reducible repeat (first | refine ZR ?_ _ | refine ZS ?_ | refine ZT ?_ _)); exact BK162.out) hb); have n5_ := ZM (blk_below (g := gb164) (o := .cells #[.int .i64 ((rd_T40 l0_0 ((rd_T82 t158 x36_2).f0)).f0), .int .i64 ((rd_T40 l0_0 ((rd_T82 t158 x36_2).f0)).f1), .int .i64 ((rd_T40 l0_0 ((rd_T82 t158 x36_2).f0)).f2), .int .i64 ((rd_T40 l0_0 ((rd_T82 t158 x36_2).f0)).f3)] 40 (0, 0)) (by (with_reducible repeat (first | refine ZR ?_ _ | refine ZS ?_ | refine ZT ?_ _)); refine blk_put (cs := #[.int .i64 ((rd_T40 l0_0 ((rd_T82 t158 x36_2).f0)).f0), .int .i64 ((rd_T40 l0_0 ((rd_T82 t158 x36_2).f0)).f1), .int .i64 ((rd_T40 l0_0 ((rd_T82 t158 x36_2).f0)).f2), .int .i64 0]) ?_ 3 _ rfl; (with_reducible repeat (first | refine ZR ?_ _ | refine ZS ?_ | refine ZT ?_ _)); refine blk_put (cs := #[.int .i64 ((rd_T40 l0_0 ((rd_T82 t158 x36_2).f0)).f0), .int .i64 ((rd_T40 l0_0 ((rd_T82 t158 x36_2).f0)).f1), .int .i64 0, .int .i64 0]) ?_ 2 _ rfl; (with_reducible repeat (first | refine ZR ?_ _ | refine ZS ?_ | refine ZT ?_ _)); refine blk_put (cs := #[.int .i64 ((rd_T40 l0_0 ((rd_T82 t158 x36_2).f0)).f0), .int .i64 0, .int .i64 0, .int .i64 0]) ?_ 1 _ rfl; (with_reducible repeat (first | refine ZR ?_ _ | refine ZS ?_ | refine ZT ?_ _)); refine blk_put (cs := #[.int .i64 0, .int .i64 0, .int .i64 0, .int .i64 0]) ?_ 0 _ rfl; (with_reducible repeat (first | refine ZR ?_ _ | refine ZS ?_ | refine ZT ?_ _)); exact BK164.out) hb); have n6_ := ZM (ZW (ZBB HB.out) hb); clear HO_6; clear HO_7; clear HO_34; clear BK144; clear BK162; clear BK164; clear HB; have HO_6 := n0_; have HO_7 := n1_; have HO_34 := n2_; have BK144 := n3_; have BK162 := n4_; have BK164 := n5_; have HB := n6_; clear n0_ n1_ n2_ n3_ n4_ n5_ n6_; (try clear hb); (try clear hb2); (try clear hk); (try clear hi); have hcz60_0 : w59.cell? ⟨gb164, 0, none⟩ = some (.int .i64 ((rd_T40 l0_0 ((rd_T82 t158 x36_2).f0)).f0)) := (ZG BK164.out 0).trans rfl; have hcz60_1 : w59.cell? ⟨gb164, 1, none⟩ = some (.int .i64 ((rd_T40 l0_0 ((rd_T82 t158 x36_2).f0)).f1)) := (ZG BK164.out 1).trans rfl; have hcz60_2 : w59.cell? ⟨gb164, 2, none⟩ = some (.int .i64 ((rd_T40 l0_0 ((rd_T82 t158 x36_2).f0)).f2)) := (ZG BK164.out 2).trans rfl; have hcz60_3 : w59.cell? ⟨gb164, 3, none⟩ = some (.int .i64 ((rd_T40 l0_0 ((rd_T82 t158 x36_2).f0)).f3)) := (ZG BK164.out 3).trans rfl; have hfz60_0 := ZF BK164.out 0; have hfz60_1 := ZF BK164.out 1; have hfz60_2 := ZF BK164.out 2; have hfz60_3 := ZF BK164.out 3))
           go_meet
           case rel => exact ⟨_, (false), (by first | rfl | (simp; done) | (simp [*]; done)), H', ⟨by have := HK1.out; have := HK2.out; first | omega | exact Nat.le_refl _⟩, ⟨ZRK HO_6.out⟩, ⟨by (with_reducible repeat (first | apply Kd.Q_alloc | apply Kd.Q_drewN | apply Kd.Q_drew)); exact HO_7.out⟩, ⟨by (with_reducible repeat (first | apply ZY | apply ZX | apply ZZ)); exact Kd.R_mono HO_34.out (fun _ hk => hk.2)⟩, ⟨ZBK BK144.out⟩, ⟨ZBK BK162.out⟩, ⟨ZBK BK164.out⟩, ⟨ZBB HB.out⟩⟩
       case rest =>
        clear HC31
        try clear c1
        try clear c3
        try clear c3b0
        try clear c4
        try clear c4b0
        try clear c6
        try clear c6b0
        try clear c6b1
        try clear c7
        try clear c7b0
        try clear c7b1
        try clear c16
        try clear c16b0
        try clear c16b1
        try clear c17
        try clear c17b0
        try clear c17b1
        try clear c18
        try clear c18b0
        try clear c18b1
        try clear c21
        try clear q21
        try clear c25
        try clear c25b0
        try clear c26
        try clear c26b0
        try clear c27
        try clear c27b0
        try clear c28
        try clear c28b0
        try clear c29
        try clear c29b0
        try clear c30
        try clear c30b0
        try clear c43
        try clear c45
        try clear c45b0
        try clear c50
        try clear c50b0
        try clear c50b1
        try clear hcz11_0
        try clear hcz11_1
        try clear hcz22_0
        try clear hcz22_1
        try clear hcz34_0
        try clear hcz34_1
        try clear hcz35_0
        try clear hcz35_1
        try clear hcz39_0
        try clear hcz39_1
        try clear hcz39_2
        try clear hcz39_3
        try clear hcz40_0
        try clear hcz40_1
        try clear hcz48_0
        try clear hcz48_1
        try clear hcz48_2
        try clear hcz48_3
        try clear hcz53_0
        try clear hcz53_1
        try clear hcz53_2
        try clear hcz53_3
        try clear hcz55_0
        try clear hcz55_1
        try clear hcz55_2
        try clear hcz55_3
        try clear hcz58_0
        try clear hcz58_1
        try clear hcz58_2
        try clear hcz58_3
        try clear hcz60_0
        try clear hcz60_1
        try clear hcz60_2
        try clear hcz60_3
        try clear hcz9_0
        try clear hcz9_1
        try clear hfz11_0
        try clear hfz11_1
        try clear hfz22_0
        try clear hfz22_1
        try clear hfz34_0
        try clear hfz34_1
        try clear hfz35_0
        try clear hfz35_1
        try clear hfz39_0
        try clear hfz39_1
        try clear hfz39_2
        try clear hfz39_3
        try clear hfz40_0
        try clear hfz40_1
        try clear hfz48_0
        try clear hfz48_1
        try clear hfz48_2
        try clear hfz48_3
        try clear hfz53_0
        try clear hfz53_1
        try clear hfz53_2
        try clear hfz53_3
        try clear hfz55_0
        try clear hfz55_1
        try clear hfz55_2
        try clear hfz55_3
        try clear hfz58_0
        try clear hfz58_1
        try clear hfz58_2
        try clear hfz58_3
        try clear hfz60_0
        try clear hfz60_1
        try clear hfz60_2
        try clear hfz60_3
        try clear hfz9_0
        try clear hfz9_1
        try clear hx145_0
        try clear hx145_1
        try clear hx145_2
        try clear hx145_3
        try clear hx154_0
        try clear hx161_0
        try clear hx161_1
        try clear hx163_0
        try clear hx163_1
        try clear hx163_2
        try clear hx163_3
        try clear hx165_0
        try clear p145
        try clear p154
        try clear p161
        try clear p163
        try clear p165
        try clear q145
        try clear q154
        try clear q161
        try clear q163
        try clear q165
        try clear q21
        obtain ⟨kq, x46_30, rfl, HA, HJ30, HO_6, HO_7, HO_34, BK144, BK162, BK164, HB⟩ := hcut
        cases kq with
        | zero => exact absurd HA.out (by simp [valid_round.j2])
        | succ kj30 =>
         have H := HA.out
         clear HA
         simp only [valid_round.j2] at H
         by_cases c61 : x46_30 = true
         ·subst c61
          have H1 : (valid_round.l1 kj30 a1 t146 x6_2 x7_2 t158 (t158.length : Int) (wrap64 (x36_2 + 1)) l0_0 l0_1) = some r := by rw [if_pos rfl] at H; exact H
          clear H
          have H := H1
          clear H1
          have H' := ZM H
          clear H
          go_wp2
          go_roundg kj30
          case measure => have := HK1.out; have := HK2.out; have := HJ30.out; omega
          case rel => exact ⟨(x6_2), (x7_2), (wrap64 (x36_2 + 1)), (by first | rfl | (simp; done) | (simp [*]; done)), H', ⟨by have := HK1.out; have := HK2.out; have := HJ30.out; omega⟩, ⟨ZRK HO_6.out⟩, ⟨by (with_reducible repeat (first | apply Kd.Q_alloc | apply Kd.Q_drewN | apply Kd.Q_drew)); exact HO_7.out⟩, ⟨by (with_reducible repeat (first | apply ZY | apply ZX | apply ZZ)); exact Kd.R_mono HO_34.out (fun _ hk => trivial)⟩, ⟨ZBK BK144.out⟩, ⟨ZBB HB.out⟩⟩
         ·replace c61 := Bool.eq_false_iff.mpr c61
          subst c61
          have H1 : (if ((rd_T82 t158 x36_2).f0) = a1 then (if 0 ≤ a1 then (if a1 < (x6_2.length : Int) then (some (rdOf false (x6_2.set (a1 : Int).toNat true) a1)) else (none)) else (none)) else (if 0 ≤ ((rd_T82 t158 x36_2).f0) then (if ((rd_T82 t158 x36_2).f0) < (x6_2.length : Int) then (if x7_2.length < 17592186044416 then (valid_round.l1 kj30 a1 t146 (x6_2.set (((rd_T82 t158 x36_2).f0) : Int).toNat true) (x7_2 ++ [((rd_T82 t158 x36_2).f0)]) t158 (t158.length : Int) (wrap64 (x36_2 + 1)) l0_0 l0_1) else (none)) else (none)) else (none))) = some r := by rw [if_neg (show ¬ (false = true) by decide)] at H; exact H
          clear H
          have H := H1
          clear H1
          by_cases c62 : ((rd_T82 t158 x36_2).f0) = a1
          ·rw [if_pos c62] at H
           have c62b0 : (((rd_T82 t158 x36_2).f0) == a1) = true := beq_iff_eq.mpr c62
           have c62b1 : (((rd_T82 t158 x36_2).f0) != a1) = false := bne_eq_false_iff_eq.mpr c62
           clear c62
           by_cases c63 : 0 ≤ a1
           case neg =>
            rw [if_neg c63] at H
            exact absurd H (by simp)
           rw [if_pos c63] at H
           have c63b0 : decide (0 ≤ a1) = true := decide_eq_true c63
           clear c63
           by_cases c64 : a1 < (x6_2.length : Int)
           case neg =>
            rw [if_neg c64] at H
            exact absurd H (by simp)
           rw [if_pos c64] at H
           have c64b0 : decide (a1 < (x6_2.length : Int)) = true := decide_eq_true c64
           clear c64
           obtain ⟨y167, hy167⟩ : ∃ y_ : List Bool, y_ = (x6_2.set (a1 : Int).toNat true) := ⟨_, rfl⟩
           replace H : (some (rdOf false y167 a1)) = some r := by first | (rw [hy167]; with_reducible exact H) | (have H2_ := (Option.bind_some _ _).symm.trans H; rw [hy167]; with_reducible exact H2_) | (have H2_ := (Option.bind_some _ _).symm.trans H; with_reducible exact H2_) | with_reducible exact H | (rw [hy167]; exact H) | exact H
           have Ny167 := ZM hy167
           clear hy167
           obtain rfl := Option.some.inj H
           have hnb66 := NB162_144.out
           have hnc66 := NB144_162.out
           have hnb67 := NB162_164.out
           have hnc67 := NB164_162.out
           have hcz68_0 : wc.cell? ⟨gb162, 0, none⟩ = some (.int .i64 ((rd_T82 t158 x36_2).f0)) := (ZG BK162.out 0).trans rfl
           have hcz68_1 : wc.cell? ⟨gb162, 1, none⟩ = some (.int .i64 ((rd_T82 t158 x36_2).f1)) := (ZG BK162.out 1).trans rfl
           have hfz68_0 := ZF BK162.out 0
           have hfz68_1 := ZF BK162.out 1
           have p65 : 0 ≤ (a1 : Int) := ZOD
           have q65 : (a1 : Int) < ((x6_2.length : Int) : Int) := ZOD
           obtain ⟨go65, co65, eo65, gb65, gl65, cl65, HG65⟩ := Kd.R_form HO_6.out (by omega)
           (first | cases eo65 | (injection eo65 with ea_ en_ ec_; (first | subst ea_ | (injection ea_ with ea_; subst ea_)); subst ec_; clear en_))
           have GB65 := ZM gb65
           have GG65 := ZM HG65
           clear gb65 gl65 HG65
           (first | simp only [add_plain] at hx165_0 | skip)
           obtain ⟨hx65_0, hf65_0⟩ := Kd.R_celln false HO_6.out (a1 : Int) p65 q65
           replace p65 := eq_true p65
           replace q65 := eq_true q65
           have HP69 := Kd.R_putg HO_6.out (a1 : Int) true
           go_wp2_with (first | ((with_reducible refine gate_store (t := 4) (p := 72) rfl ?_); refine store_event (t := 4) (p := 72) (v := ?vo_w70) (w1 := (wc.setCell ⟨go65, (a1 : Int).toNat, none⟩ (.bool true))) ?hg ?ho ?hn ?hr ?_; (case ho => rfl); (case hg => rfl); (case hn => rfl); (case hr => first | (go_simp; done) | (go_simp; rfl)); intro w70 hw; have hg : wc.grownBy w70 (some go65) := (by rw [hw]; exact HP69.2); have hp_ : Kd.R Kd.bool 4 w70 w.heap.size (fun _ => True) (.slice (some ⟨go65, 0, none⟩) x6_2.length co41) y167 := (by rw [hw, Ny167.out]; exact HP69.1); clear HP69; have n0_ := ZM (hp_); have n1_ := ZM (Kd.Q_over' (v := (.slice (some ⟨go65, 0, none⟩) x6_2.length co41)) (by (with_reducible repeat (first | apply Kd.Q_alloc | apply Kd.Q_drewN | apply Kd.Q_drew)); exact HO_7.out) (Kd.R_typed HO_6.out) (by decide) hg); have n2_ := ZM (Kd.R_over' (v := (.slice (some ⟨go65, 0, none⟩) x6_2.length co41)) (ZRK HO_34.out) (Kd.R_typed HO_6.out) (by decide) hg); have n3_ := ZM (blk_grown (g := gb144) (o := .cells #[.slice (some ad145) l0_0.length c0_0, .slice A0_1 l0_1.length c0_1] 27 (0, 0)) (ZBK BK144.out) hg (Kd.R_ne HO_6.out BK144.out (by decide))); have n4_ := ZM (blk_grown (g := gb162) (o := .cells #[.int .i64 ((rd_T82 t158 x36_2).f0), .int .i64 ((rd_T82 t158 x36_2).f1)] 82 (0, 0)) (ZBK BK162.out) hg (Kd.R_ne HO_6.out BK162.out (by decide))); have n5_ := ZM (blk_grown (g := gb164) (o := .cells #[.int .i64 ((rd_T40 l0_0 ((rd_T82 t158 x36_2).f0)).f0), .int .i64 ((rd_T40 l0_0 ((rd_T82 t158 x36_2).f0)).f1), .int .i64 ((rd_T40 l0_0 ((rd_T82 t158 x36_2).f0)).f2), .int .i64 ((rd_T40 l0_0 ((rd_T82 t158 x36_2).f0)).f3)] 40 (0, 0)) (ZBK BK164.out) hg (Kd.R_ne HO_6.out BK164.out (by decide))); have n6_ := ZM ((by rw [hw]; exact ZQ (HB.out) GB65.out : Below w.heap.size w w70)); clear HO_6; clear HO_7; clear HO_34; clear BK144; clear BK162; clear BK164; clear HB; have HO_6 := n0_; have HO_7 := n1_; have HO_34 := n2_; have BK144 := n3_; have BK162 := n4_; have BK164 := n5_; have HB := n6_; clear n0_ n1_ n2_ n3_ n4_ n5_ n6_; clear hg hw hp_; have p168 : 0 ≤ (a1 : Int) := ZOD; have q168 : a1 < (y167.length : Int) := (by have h_ : (a1 : Int) < ((x6_2.length : Int) : Int) := ZOD; first | (have e_ := (Kd.R_reads' HO_6.out).1; omega) | simpa only [Ny167.out, List.length_set] using h_); have ql168 : ((a1 : Int) < ((x6_2.length : Int) : Int)) = True := eq_true (ZOD); obtain ⟨ad168, e168, hx168_0⟩ := Kd.at_bool (Kd.R_reads' HO_6.out).2.2 a1 p168 q168; obtain rfl : (⟨go65, 0, none⟩ : Addr) = ad168 := (by injection e168); (first | simp only [add_plain] at hx168_0 | simp only [add_at] at hx168_0 | simp only [Addr.add, Nat.zero_add] at hx168_0 | skip); replace p168 := eq_true p168; replace q168 := eq_true q168))
           (try rw [Exit.noGoto_ret])
           go_ret
           exact ⟨by first | rfl | (simp [errW_none, errW_some] <;> rfl) | (simp [*, errW_none, errW_some] <;> rfl), ZBB HB.out⟩
          ·rw [if_neg c62] at H
           have c62b0 : (((rd_T82 t158 x36_2).f0) == a1) = false := beq_eq_false_iff_ne.mpr c62
           have c62b1 : (((rd_T82 t158 x36_2).f0) != a1) = true := bne_iff_ne.mpr c62
           by_cases c71 : 0 ≤ ((rd_T82 t158 x36_2).f0)
           case neg =>
            rw [if_neg c71] at H
            exact absurd H (by simp)
           rw [if_pos c71] at H
           have c71b0 : decide (0 ≤ ((rd_T82 t158 x36_2).f0)) = true := decide_eq_true c71
           clear c71
           by_cases c72 : ((rd_T82 t158 x36_2).f0) < (x6_2.length : Int)
           case neg =>
            rw [if_neg c72] at H
            exact absurd H (by simp)
           rw [if_pos c72] at H
           have c72b0 : decide (((rd_T82 t158 x36_2).f0) < (x6_2.length : Int)) = true := decide_eq_true c72
           clear c72
           obtain ⟨y169, hy169⟩ : ∃ y_ : List Bool, y_ = (x6_2.set (((rd_T82 t158 x36_2).f0) : Int).toNat true) := ⟨_, rfl⟩
           replace H : (if x7_2.length < 17592186044416 then (valid_round.l1 kj30 a1 t146 y169 (x7_2 ++ [((rd_T82 t158 x36_2).f0)]) t158 (t158.length : Int) (wrap64 (x36_2 + 1)) l0_0 l0_1) else (none)) = some r := by first | (rw [hy169]; with_reducible exact H) | (have H2_ := (Option.bind_some _ _).symm.trans H; rw [hy169]; with_reducible exact H2_) | (have H2_ := (Option.bind_some _ _).symm.trans H; with_reducible exact H2_) | with_reducible exact H | (rw [hy169]; exact H) | exact H
           have Ny169 := ZM hy169
           clear hy169
           by_cases c74 : x7_2.length < 17592186044416
           case neg =>
            rw [if_neg c74] at H
            exact absurd H (by simp)
           rw [if_pos c74] at H
           have LMc74 := ZM c74
           clear c74
           obtain ⟨y170, hy170⟩ : ∃ y_ : List Int, y_ = (x7_2 ++ [((rd_T82 t158 x36_2).f0)]) := ⟨_, rfl⟩
           replace H : (valid_round.l1 kj30 a1 t146 y169 y170 t158 (t158.length : Int) (wrap64 (x36_2 + 1)) l0_0 l0_1) = some r := by first | (rw [hy170]; with_reducible exact H) | (have H2_ := (Option.bind_some _ _).symm.trans H; rw [hy170]; with_reducible exact H2_) | (have H2_ := (Option.bind_some _ _).symm.trans H; with_reducible exact H2_) | with_reducible exact H | (rw [hy170]; exact H) | exact H
           have Ny170 := ZM hy170
           clear hy170
           have H' := ZM H
           clear H
           have hnb75 := NB162_144.out
           have hnc75 := NB144_162.out
           have hnb76 := NB162_164.out
           have hnc76 := NB164_162.out
           have hcz77_0 : wc.cell? ⟨gb162, 0, none⟩ = some (.int .i64 ((rd_T82 t158 x36_2).f0)) := (ZG BK162.out 0).trans rfl
           have hcz77_1 : wc.cell? ⟨gb162, 1, none⟩ = some (.int .i64 ((rd_T82 t158 x36_2).f1)) := (ZG BK162.out 1).trans rfl
           have hfz77_0 := ZF BK162.out 0
           have hfz77_1 := ZF BK162.out 1
           have p73 : 0 ≤ (((rd_T82 t158 x36_2).f0) : Int) := ZOD
           have q73 : (((rd_T82 t158 x36_2).f0) : Int) < ((x6_2.length : Int) : Int) := ZOD
           obtain ⟨go73, co73, eo73, gb73, gl73, cl73, HG73⟩ := Kd.R_form HO_6.out (by omega)
           (first | cases eo73 | (injection eo73 with ea_ en_ ec_; (first | subst ea_ | (injection ea_ with ea_; subst ea_)); subst ec_; clear en_))
           have GB73 := ZM gb73
           have GG73 := ZM HG73
           clear gb73 gl73 HG73
           obtain ⟨hx73_0, hf73_0⟩ := Kd.R_celln false HO_6.out (((rd_T82 t158 x36_2).f0) : Int) p73 q73
           replace p73 := eq_true p73
           replace q73 := eq_true q73
           have HP78 := Kd.R_putg HO_6.out (((rd_T82 t158 x36_2).f0) : Int) true
           go_wp2_with (first | ((with_reducible refine gate_store (t := 4) (p := 76) rfl ?_); refine store_event (t := 4) (p := 76) (v := ?vo_w79) (w1 := (wc.setCell ⟨go73, (((rd_T82 t158 x36_2).f0) : Int).toNat, none⟩ (.bool true))) ?hg ?ho ?hn ?hr ?_; (case ho => rfl); (case hg => rfl); (case hn => rfl); (case hr => first | (go_simp; done) | (go_simp; rfl)); intro w79 hw; have hg : wc.grownBy w79 (some go73) := (by rw [hw]; exact HP78.2); have hp_ : Kd.R Kd.bool 4 w79 w.heap.size (fun _ => True) (.slice (some ⟨go73, 0, none⟩) x6_2.length co41) y169 := (by rw [hw, Ny169.out]; exact HP78.1); clear HP78; have n0_ := ZM (hp_); have n1_ := ZM (Kd.Q_over' (v := (.slice (some ⟨go73, 0, none⟩) x6_2.length co41)) (by (with_reducible repeat (first | apply Kd.Q_alloc | apply Kd.Q_drewN | apply Kd.Q_drew)); exact HO_7.out) (Kd.R_typed HO_6.out) (by decide) hg); have n2_ := ZM (Kd.R_over' (v := (.slice (some ⟨go73, 0, none⟩) x6_2.length co41)) (ZRK HO_34.out) (Kd.R_typed HO_6.out) (by decide) hg); have n3_ := ZM (blk_grown (g := gb144) (o := .cells #[.slice (some ad145) l0_0.length c0_0, .slice A0_1 l0_1.length c0_1] 27 (0, 0)) (ZBK BK144.out) hg (Kd.R_ne HO_6.out BK144.out (by decide))); have n4_ := ZM (blk_grown (g := gb162) (o := .cells #[.int .i64 ((rd_T82 t158 x36_2).f0), .int .i64 ((rd_T82 t158 x36_2).f1)] 82 (0, 0)) (ZBK BK162.out) hg (Kd.R_ne HO_6.out BK162.out (by decide))); have n5_ := ZM (blk_grown (g := gb164) (o := .cells #[.int .i64 ((rd_T40 l0_0 ((rd_T82 t158 x36_2).f0)).f0), .int .i64 ((rd_T40 l0_0 ((rd_T82 t158 x36_2).f0)).f1), .int .i64 ((rd_T40 l0_0 ((rd_T82 t158 x36_2).f0)).f2), .int .i64 ((rd_T40 l0_0 ((rd_T82 t158 x36_2).f0)).f3)] 40 (0, 0)) (ZBK BK164.out) hg (Kd.R_ne HO_6.out BK164.out (by decide))); have n6_ := ZM ((by rw [hw]; exact ZQ (HB.out) GB73.out : Below w.heap.size w w79)); clear HO_6; clear HO_7; clear HO_34; clear BK144; clear BK162; clear BK164; clear HB; have HO_6 := n0_; have HO_7 := n1_; have HO_34 := n2_; have BK144 := n3_; have BK162 := n4_; have BK164 := n5_; have HB := n6_; clear n0_ n1_ n2_ n3_ n4_ n5_ n6_; clear hg hw hp_; have hcz80_0 : w79.cell? ⟨gb162, 0, none⟩ = some (.int .i64 ((rd_T82 t158 x36_2).f0)) := (ZG BK162.out 0).trans rfl; have hcz80_1 : w79.cell? ⟨gb162, 1, none⟩ = some (.int .i64 ((rd_T82 t158 x36_2).f1)) := (ZG BK162.out 1).trans rfl; have hfz80_0 := ZF BK162.out 0; have hfz80_1 := ZF BK162.out 1) | ((with_reducible refine gate_builtin (b := .append) (xs := #[.tmp 77, .tmp 80]) rfl ?_); at_builtin; refine Kd.Q_append (Kd.int .i64) (w0 := w) w.heap.size rfl (.tmp 77) (.tmp 80) 61 3 (.int .i64 0) 8 rfl Tryd.underlying61 info3 rfl (by decide) (by omega) u7 x7_2 ((rd_T82 t158 x36_2).f0) [.int .i64 ((rd_T82 t158 x36_2).f0)] (fun _ => True) (fun _ => False) rfl rfl ?aP (fun _ hk => hk.elim) ?aF ?aO ?aB ?aS ?aL ?_; (case aP => exact rfl); (case aB => exact (ZBB HB.out)); (case aF => exact (fun _ _ => trivial)); (case aO => exact (by (with_reducible repeat (first | apply Kd.Q_alloc | apply Kd.Q_drewN | apply Kd.Q_drew)); exact HO_7.out)); (case aS => exact (ZV (ZBB HB.out))); (case aL => have := LMc74.out; omega); intro v171 w81 ho hb hg hat; rw [← Ny170.out] at ho; have n0_ := ZM (Kd.R_over' (ZRK HO_6.out) (Kd.Q_typed (by (with_reducible repeat (first | apply Kd.Q_alloc | apply Kd.Q_drewN | apply Kd.Q_drew)); exact HO_7.out)) (by decide) hg); have n1_ := ZM (Kd.R_over' (ZRK HO_34.out) (Kd.Q_typed (by (with_reducible repeat (first | apply Kd.Q_alloc | apply Kd.Q_drewN | apply Kd.Q_drew)); exact HO_7.out)) (by decide) hg); have n2_ := ZM (blk_grown (g := gb144) (o := .cells #[.slice (some ad145) l0_0.length c0_0, .slice A0_1 l0_1.length c0_1] 27 (0, 0)) (ZBK BK144.out) hg (Kd.Q_ne HO_7.out BK144.out (by decide))); have n3_ := ZM (blk_grown (g := gb162) (o := .cells #[.int .i64 ((rd_T82 t158 x36_2).f0), .int .i64 ((rd_T82 t158 x36_2).f1)] 82 (0, 0)) (ZBK BK162.out) hg (Kd.Q_ne HO_7.out BK162.out (by decide))); have n4_ := ZM (blk_grown (g := gb164) (o := .cells #[.int .i64 ((rd_T40 l0_0 ((rd_T82 t158 x36_2).f0)).f0), .int .i64 ((rd_T40 l0_0 ((rd_T82 t158 x36_2).f0)).f1), .int .i64 ((rd_T40 l0_0 ((rd_T82 t158 x36_2).f0)).f2), .int .i64 ((rd_T40 l0_0 ((rd_T82 t158 x36_2).f0)).f3)] 40 (0, 0)) (ZBK BK164.out) hg (Kd.Q_ne HO_7.out BK164.out (by decide))); have n5_ := ZM (hb); have n6_ := ZM (ho); clear HO_6; clear HO_34; clear BK144; clear BK162; clear BK164; clear HB; clear HO_7; have HO_6 := n0_; have HO_34 := n1_; have BK144 := n2_; have BK162 := n3_; have BK164 := n4_; have HB := n5_; have HO172 := n6_; clear n0_ n1_ n2_ n3_ n4_ n5_ n6_; clear ho hb hg hat))
           go_roundg kj30
           case measure => have := HK1.out; have := HK2.out; have := HJ30.out; omega
           case rel => exact ⟨(y169), (y170), (wrap64 (x36_2 + 1)), (by first | rfl | (simp; done) | (simp [*]; done)), H', ⟨by have := HK1.out; have := HK2.out; have := HJ30.out; omega⟩, ⟨ZRK HO_6.out⟩, ⟨by (with_reducible repeat (first | apply Kd.Q_alloc | apply Kd.Q_drewN | apply Kd.Q_drew)); exact HO172.out⟩, ⟨by (with_reducible repeat (first | apply ZY | apply ZX | apply ZZ)); exact Kd.R_mono HO_34.out (fun _ hk => trivial)⟩, ⟨ZBK BK144.out⟩, ⟨ZBB HB.out⟩⟩
      ·rw [if_neg c25] at H
       have c25b0 : decide (x36_2 < (t158.length : Int)) = false := decide_eq_false c25
       clear c25
       have H' := ZM H
       clear H
       go_wp2
       go_roundg k2
       case measure => have := HK1.out; have := HK2.out; omega
       case rel => exact ⟨(x6_2), (x7_2), H', ⟨by have := HK1.out; have := HK2.out; omega⟩, ⟨ZRK HO_6.out⟩, ⟨by (with_reducible repeat (first | apply Kd.Q_alloc | apply Kd.Q_drewN | apply Kd.Q_drew)); exact HO_7.out⟩, ⟨ZBK BK144.out⟩, ⟨ZBB HB.out⟩⟩
   ·rw [if_neg c16] at H
    have c16b0 : decide (0 < (x7_1.length : Int)) = false := decide_eq_false c16
    have c16b1 : decide (0 < x7_1.length) = false := decide_eq_false (by omega)
    clear c16
    by_cases c82 : 0 ≤ a1
    case neg =>
     rw [if_neg c82] at H
     exact absurd H (by simp)
    rw [if_pos c82] at H
    have c82b0 : decide (0 ≤ a1) = true := decide_eq_true c82
    clear c82
    by_cases c83 : a1 < (x6_1.length : Int)
    case neg =>
     rw [if_neg c83] at H
     exact absurd H (by simp)
    rw [if_pos c83] at H
    have c83b0 : decide (a1 < (x6_1.length : Int)) = true := decide_eq_true c83
    clear c83
    obtain rfl := Option.some.inj H
    obtain ⟨Ao84, co84, eo84, _⟩ := Kd.Q_slice HO_7.out
    subst eo84
    obtain ⟨Ao85, co85, eo85⟩ := Kd.R_slice HO_6.out
    subst eo85
    have p153 : 0 ≤ (a1 : Int) := ZOD
    have q153 : a1 < (x6_1.length : Int) := ZOD
    obtain ⟨ad153, e153, hx153_0⟩ := Kd.at_bool (Kd.R_reads' HO_6.out).2.2 a1 p153 q153
    cases e153
    replace p153 := eq_true p153
    replace q153 := eq_true q153
    go_wp2
    (try rw [Exit.noGoto_ret])
    go_ret
    exact ⟨by first | rfl | (simp [errW_none, errW_some] <;> rfl) | (simp [*, errW_none, errW_some] <;> rfl), ZBB HB.out⟩
end Go.Proofs.YtbjjcolbomaodaaDoor.PLdp
