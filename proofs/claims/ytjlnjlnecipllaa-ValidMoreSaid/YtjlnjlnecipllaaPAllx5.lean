-- Laid by hprint.py of this repo: the kit's printer, and contracts by hand beside it. Not trusted: Lean checks it.
import Derived.Test.YtjlnjlnecipllaaPAllx0
import Derived.Test.YtjlnjlnecipllaaPAllx4
namespace Go.Proofs.Ytjlnjlnecipllaa.PAll
open Go.RowKit Go.Proofs.YtjlnjlnecipllaaW.PrintWords Go.Proofs.YtjlnjlnecipllaaW.PrintLast Go.Proofs.YtjlnjlnecipllaaW.PrintMore
attribute [local go_sem] max2_int min2_int max_two min_two max_three min_three max_four min_four   -- for this text's walks alone
set_option linter.unusedVariables false
set_option linter.unusedSimpArgs false

/-! ### valid_round: function 60 -/
mutual
def valid_round.l0 : Nat → Int → Int → List Bool → List Int → List (S23) → List (S36) → Option (Bool)
 | 0, _, _, _, _, _, _ => none
 | k + 1, x1, x5, x6, x7, x135000, x135001 => if (x7.length : Int) > 0 then (if 0 < (x7.length : Int) then (if 1 ≤ (x7.length : Int) then ((graph_Next.f k x135000 x135001 (rd x7 0)).bind fun t148 => (valid_round.l1 k x1 x5 x6 (x7.drop (1 : Int).toNat) t148 (t148.length : Int) 0 x135000 x135001)) else (none)) else (none)) else (if 0 ≤ x1 then (if x1 < (x6.length : Int) then (some (rdOf false x6 x1)) else (none)) else (none))
def valid_round.l1 : Nat → Int → Int → List Bool → List Int → List (S47) → Int → Int → List (S23) → List (S36) → Option (Bool)
 | 0, _, _, _, _, _, _, _, _, _ => none
 | k + 1, x1, x5, x6, x7, x34, x35, x36, x135000, x135001 => if x36 < x35 then (if 0 ≤ x36 then (if x36 < (x34.length : Int) then (if 0 ≤ ((rd_T47 x34 x36).f0) then (if ((rd_T47 x34 x36).f0) < (x135000.length : Int) then (if ((rd_T47 x34 x36).f0) < (x6.length : Int) then (if rdOf false x6 ((rd_T47 x34 x36).f0) = true then (valid_round.j2 k x1 x5 x6 x7 x34 x35 x36 (rdOf false x6 ((rd_T47 x34 x36).f0)) x135000 x135001 ((rd_T47 x34 x36).f0) ((rd_T47 x34 x36).f1)) else ((valid_low.f ((rd_T23 x135000 ((rd_T47 x34 x36).f0)).f0) ((rd_T23 x135000 ((rd_T47 x34 x36).f0)).f1) ((rd_T23 x135000 ((rd_T47 x34 x36).f0)).f2) ((rd_T23 x135000 ((rd_T47 x34 x36).f0)).f3)).bind fun t156 => (if t156 < x5 then (valid_round.j2 k x1 x5 x6 x7 x34 x35 x36 (decide (t156 < x5)) x135000 x135001 ((rd_T47 x34 x36).f0) ((rd_T47 x34 x36).f1)) else (if ((rd_T23 x135000 ((rd_T47 x34 x36).f0)).f0) = 10 then (valid_round.j2 k x1 x5 x6 x7 x34 x35 x36 (((rd_T23 x135000 ((rd_T47 x34 x36).f0)).f3) == x5) x135000 x135001 ((rd_T47 x34 x36).f0) ((rd_T47 x34 x36).f1)) else (valid_round.j2 k x1 x5 x6 x7 x34 x35 x36 false x135000 x135001 ((rd_T47 x34 x36).f0) ((rd_T47 x34 x36).f1)))))) else (none)) else (none)) else (none)) else (none)) else (none)) else (valid_round.l0 k x1 x5 x6 x7 x135000 x135001)
def valid_round.j2 : Nat → Int → Int → List Bool → List Int → List (S47) → Int → Int → Bool → List (S23) → List (S36) → Int → Int → Option (Bool)
 | 0, _, _, _, _, _, _, _, _, _, _, _, _ => none
 | k + 1, x1, x5, x6, x7, x34, x35, x36, x46, x135000, x135001, x153000, x153001 => if x46 = true then (valid_round.l1 k x1 x5 x6 x7 x34 x35 (wrap64 (x36 + 1)) x135000 x135001) else (if x153000 = x1 then (if 0 ≤ x1 then (if x1 < (x6.length : Int) then (some (rdOf false (x6.set (x1 : Int).toNat true) x1)) else (none)) else (none)) else (if 0 ≤ x153000 then (if x153000 < (x6.length : Int) then (if x7.length < 17592186044416 then (valid_round.l1 k x1 x5 (x6.set (x153000 : Int).toNat true) (x7 ++ [x153000]) x34 x35 (wrap64 (x36 + 1)) x135000 x135001) else (none)) else (none)) else (none)))
end
def valid_round.f (k : Nat) (l0_0 : List (S23)) (l0_1 : List (S36)) (a1 : Int) : Option (Bool) := if 0 ≤ a1 then (if a1 < (l0_0.length : Int) then ((valid_low.f ((rd_T23 l0_0 a1).f0) ((rd_T23 l0_0 a1).f1) ((rd_T23 l0_0 a1).f2) ((rd_T23 l0_0 a1).f3)).bind fun t136 => (if 0 ≤ (l0_0.length : Int) then (if ((l0_0.length : Int) : Int).toNat ≤ 281474976710656 then (valid_round.l0 k a1 t136 (List.replicate ((l0_0.length : Int) : Int).toNat false) (([a1] : List Int)) l0_0 l0_1) else (none)) else (none))) else (none)) else (none)
theorem valid_round.mono_l : ∀ k, (∀ y0 y1 y2 y3 y4 y5, LeO (valid_round.l0 k y0 y1 y2 y3 y4 y5) (valid_round.l0 (k + 1) y0 y1 y2 y3 y4 y5)) ∧ (∀ y0 y1 y2 y3 y4 y5 y6 y7 y8, LeO (valid_round.l1 k y0 y1 y2 y3 y4 y5 y6 y7 y8) (valid_round.l1 (k + 1) y0 y1 y2 y3 y4 y5 y6 y7 y8)) ∧ (∀ y0 y1 y2 y3 y4 y5 y6 y7 y8 y9 y10 y11, LeO (valid_round.j2 k y0 y1 y2 y3 y4 y5 y6 y7 y8 y9 y10 y11) (valid_round.j2 (k + 1) y0 y1 y2 y3 y4 y5 y6 y7 y8 y9 y10 y11))
 | 0 => ⟨fun _ _ _ _ _ _ r h => by simp [valid_round.l0] at h, fun _ _ _ _ _ _ _ _ _ r h => by simp [valid_round.l1] at h, fun _ _ _ _ _ _ _ _ _ _ _ _ r h => by simp [valid_round.j2] at h⟩
 | k + 1 => by
  obtain ⟨ih0, ih1, ih2⟩ := valid_round.mono_l k
  refine ⟨?_, ?_, ?_⟩
  ·intro y0 y1 y2 y3 y4 y5
   unfold valid_round.l0
   repeat' first
   | (with_reducible exact ih0 _ _ _ _ _ _)
   | (with_reducible exact ih1 _ _ _ _ _ _ _ _ _)
   | (with_reducible exact ih2 _ _ _ _ _ _ _ _ _ _ _ _)
   | (with_reducible exact graph_Next.mono _ _ _ _)
   | (with_reducible exact LeO.refl _)
   | (with_reducible exact LeO.none _)
   | (with_reducible refine LeO.ite ?_ ?_)
   | (with_reducible refine LeO.bind ?_ (fun _ => ?_))
   | exact ih0 _ _ _ _ _ _
   | exact ih1 _ _ _ _ _ _ _ _ _
   | exact ih2 _ _ _ _ _ _ _ _ _ _ _ _
   | exact graph_Next.mono _ _ _ _
   | exact LeO.none _
   | refine LeO.ite ?_ ?_
   | refine LeO.bind ?_ (fun _ => ?_)
  ·intro y0 y1 y2 y3 y4 y5 y6 y7 y8
   unfold valid_round.l1
   repeat' first
   | (with_reducible exact ih0 _ _ _ _ _ _)
   | (with_reducible exact ih1 _ _ _ _ _ _ _ _ _)
   | (with_reducible exact ih2 _ _ _ _ _ _ _ _ _ _ _ _)
   | (with_reducible exact graph_Next.mono _ _ _ _)
   | (with_reducible exact LeO.refl _)
   | (with_reducible exact LeO.none _)
   | (with_reducible refine LeO.ite ?_ ?_)
   | (with_reducible refine LeO.bind ?_ (fun _ => ?_))
   | exact ih0 _ _ _ _ _ _
   | exact ih1 _ _ _ _ _ _ _ _ _
   | exact ih2 _ _ _ _ _ _ _ _ _ _ _ _
   | exact graph_Next.mono _ _ _ _
   | exact LeO.none _
   | refine LeO.ite ?_ ?_
   | refine LeO.bind ?_ (fun _ => ?_)
  ·intro y0 y1 y2 y3 y4 y5 y6 y7 y8 y9 y10 y11
   unfold valid_round.j2
   repeat' first
   | (with_reducible exact ih0 _ _ _ _ _ _)
   | (with_reducible exact ih1 _ _ _ _ _ _ _ _ _)
   | (with_reducible exact ih2 _ _ _ _ _ _ _ _ _ _ _ _)
   | (with_reducible exact graph_Next.mono _ _ _ _)
   | (with_reducible exact LeO.refl _)
   | (with_reducible exact LeO.none _)
   | (with_reducible refine LeO.ite ?_ ?_)
   | (with_reducible refine LeO.bind ?_ (fun _ => ?_))
   | exact ih0 _ _ _ _ _ _
   | exact ih1 _ _ _ _ _ _ _ _ _
   | exact ih2 _ _ _ _ _ _ _ _ _ _ _ _
   | exact graph_Next.mono _ _ _ _
   | exact LeO.none _
   | refine LeO.ite ?_ ?_
   | refine LeO.bind ?_ (fun _ => ?_)
theorem valid_round.mono : ∀ a0 a1 a2 k, LeO (valid_round.f k a0 a1 a2) (valid_round.f (k + 1) a0 a1 a2) := by
 intro a0 a1 a2 k
 obtain ⟨ih0, ih1, ih2⟩ := valid_round.mono_l k
 unfold valid_round.f
 repeat' first
   | (with_reducible exact ih0 _ _ _ _ _ _)
   | (with_reducible exact ih1 _ _ _ _ _ _ _ _ _)
   | (with_reducible exact ih2 _ _ _ _ _ _ _ _ _ _ _ _)
   | (with_reducible exact graph_Next.mono _ _ _ _)
   | (with_reducible exact LeO.refl _)
   | (with_reducible exact LeO.none _)
   | (with_reducible refine LeO.ite ?_ ?_)
   | (with_reducible refine LeO.bind ?_ (fun _ => ?_))
   | exact ih0 _ _ _ _ _ _
   | exact ih1 _ _ _ _ _ _ _ _ _
   | exact ih2 _ _ _ _ _ _ _ _ _ _ _ _
   | exact graph_Next.mono _ _ _ _
   | exact LeO.none _
   | refine LeO.ite ?_ ?_
   | refine LeO.bind ?_ (fun _ => ?_)
set_option maxHeartbeats 8000000 in
set_option maxRecDepth 100000 in
theorem valid_round.calls (k : Nat) (A0_0 : Option Addr) (c0_0 : Nat) (l0_0 : List (S23)) (A0_1 : Option Addr) (c0_1 : Nat) (l0_1 : List (S36)) (a1 : Int) (r : Bool) (w : World) (hr0_0 : Kd.C k23 w A0_0 l0_0.length l0_0) (hc0_0 : l0_0.length ≤ c0_0) (hr0_1 : Kd.C k36 w A0_1 l0_1.length l0_1) (hc0_1 : l0_1.length ≤ c0_1) (h : valid_round.f k l0_0 l0_1 a1 = some r) :
  Calls Try.prog 60 #[.agg #[.slice A0_0 l0_0.length c0_0, .slice A0_1 l0_1.length c0_1], .int .i64 a1] w fun e w' => e = .returned (.bool r) ∧ Below w.heap.size w w' := by
 have hu29 := Try.underlying29
 have hu23 := Try.underlying23
 have hu47 := Try.underlying47
 have HR0_0 := Aside0.mk hr0_0
 have HC0_0 := Aside0.mk hc0_0
 clear hr0_0 hc0_0
 have HR0_1 := Aside0.mk hr0_1
 have HC0_1 := Aside0.mk hc0_1
 clear hr0_1 hc0_1
 have HB := Aside0.mk (Below.refl w.heap.size w)
 have H : (if 0 ≤ a1 then (if a1 < (l0_0.length : Int) then ((valid_low.f ((rd_T23 l0_0 a1).f0) ((rd_T23 l0_0 a1).f1) ((rd_T23 l0_0 a1).f2) ((rd_T23 l0_0 a1).f3)).bind fun t136 => (if 0 ≤ (l0_0.length : Int) then (if ((l0_0.length : Int) : Int).toNat ≤ 281474976710656 then (valid_round.l0 k a1 t136 (List.replicate ((l0_0.length : Int) : Int).toNat false) (([a1] : List Int)) l0_0 l0_1) else (none)) else (none))) else (none)) else (none)) = some r := h
 clear h
 by_cases c3 : 0 ≤ a1
 ·rw [if_pos c3] at H
  have c3b0 : decide (0 ≤ a1) = true := decide_eq_true c3
  clear c3
  by_cases c4 : a1 < (l0_0.length : Int)
  ·rw [if_pos c4] at H
   have c4b0 : decide (a1 < (l0_0.length : Int)) = true := decide_eq_true c4
   clear c4
   replace H := Option.bind_eq_some_iff.mp H
   obtain ⟨t136, A50, H⟩ := H
   replace H : (if 0 ≤ (l0_0.length : Int) then (if ((l0_0.length : Int) : Int).toNat ≤ 281474976710656 then (valid_round.l0 k a1 t136 (List.replicate ((l0_0.length : Int) : Int).toNat false) (([a1] : List Int)) l0_0 l0_1) else (none)) else (none)) = some r := H
   have A5 := Aside0.mk A50
   clear A50
   by_cases c6 : 0 ≤ (l0_0.length : Int)
   ·rw [if_pos c6] at H
    have c6b0 := eq_true c6
    have c6b1 : decide (0 ≤ (l0_0.length : Int)) = true := decide_eq_true c6
    clear c6
    by_cases c7 : ((l0_0.length : Int) : Int).toNat ≤ 281474976710656
    ·rw [if_pos c7] at H
     have c7b0 := eq_true c7
     have c7b1 : decide (((l0_0.length : Int) : Int).toNat ≤ 281474976710656) = true := decide_eq_true c7
     clear c7
     obtain ⟨y137, hy137⟩ : ∃ y_ : List Bool, y_ = (List.replicate ((l0_0.length : Int) : Int).toNat false) := ⟨_, rfl⟩
     replace H : (valid_round.l0 k a1 t136 y137 (([a1] : List Int)) l0_0 l0_1) = some r := by first | (rw [hy137]; with_reducible exact H) | (have H2_ := (Option.bind_some _ _).symm.trans H; rw [hy137]; with_reducible exact H2_) | (have H2_ := (Option.bind_some _ _).symm.trans H; with_reducible exact H2_) | with_reducible exact H | (rw [hy137]; exact H) | exact H
     have Ny137 := Aside0.mk hy137
     clear hy137
     obtain ⟨y140, hy140⟩ : ∃ y_ : List Int, y_ = (([a1] : List Int)) := ⟨_, rfl⟩
     replace H : (valid_round.l0 k a1 t136 y137 y140 l0_0 l0_1) = some r := by first | (rw [hy140]; with_reducible exact H) | (have H2_ := (Option.bind_some _ _).symm.trans H; rw [hy140]; with_reducible exact H2_) | (have H2_ := (Option.bind_some _ _).symm.trans H; with_reducible exact H2_) | with_reducible exact H | (rw [hy140]; exact H) | exact H
     have Ny140 := Aside0.mk hy140
     clear hy140
     have H' := Aside0.mk H
     clear H
     go_enter Try.func60, Try.ntmps60
     go_wp2_with (first | ((with_reducible refine gate_dst (N := 2) rfl ?_); refine box_event ?hg (N := 2) ?hd (cs := #[.slice A0_0 l0_0.length c0_0, .slice A0_1 l0_1.length c0_1]) (t := 29) ?hr ?_; (case hd => rfl); (case hg => rfl); (case hr => first | (go_simp; done) | (go_simp; rfl)); intro gb134 hg w8 hbox hb; have n0_ := Aside0.mk (below_step (by repeat (first | (with_reducible first | exact HB.out | apply below_alloc | apply pw_below_drewN | apply below_drew1) | exact HB.out)) hb); have n1_ := Aside0.mk (hbox); have n2_ := Aside0.mk ((by rw [hg]; exact (below_size (by repeat (first | (with_reducible first | exact HB.out | apply below_alloc | apply pw_below_drewN | apply below_drew1) | exact HB.out))) : w.heap.size ≤ gb134)); have n3_ := Aside0.mk ((by rw [hg]; exact (below_size (by repeat (first | (with_reducible first | exact HB.out | apply below_alloc | apply pw_below_drewN | apply below_drew1) | exact HB.out))) : w.heap.size ≤ gb134)); clear HB; have HB := n0_; have BK134 := n1_; have GW134 := n2_; have GE134 := n3_; clear n0_ n1_ n2_ n3_; clear hb hbox hg; have hcz9_0 : w8.cell? ⟨gb134, 0, none⟩ = some (.slice A0_0 l0_0.length c0_0) := (blk_cell BK134.out 0).trans rfl; have hcz9_1 : w8.cell? ⟨gb134, 1, none⟩ = some (.slice A0_1 l0_1.length c0_1) := (blk_cell BK134.out 1).trans rfl; have hfz9_0 := blk_frozen BK134.out 0; have hfz9_1 := blk_frozen BK134.out 1; have p135 : 0 ≤ (a1 : Int) := of_decide_eq_true (by first | (with_reducible assumption) | assumption); have q135 : a1 < (l0_0.length : Int) := of_decide_eq_true (by first | (with_reducible assumption) | assumption); obtain ⟨ad135, e135, hx135_0, hx135_1, hx135_2, hx135_3⟩ := at_T23 HR0_0.out a1 p135 q135; cases e135; replace hx135_0 := (HB.out.cell (World.block_lt_of_cell? w _ hx135_0)).trans hx135_0; replace hx135_1 := (HB.out.cell (World.block_lt_of_cell? w _ hx135_1)).trans hx135_1; replace hx135_2 := (HB.out.cell (World.block_lt_of_cell? w _ hx135_2)).trans hx135_2; replace hx135_3 := (HB.out.cell (World.block_lt_of_cell? w _ hx135_3)).trans hx135_3; replace p135 := eq_true p135; replace q135 := eq_true q135) | ((with_reducible refine gate_callee (f := 78) rfl ?_); refine goesL_ (some 17) rfl rfl Try.func78 (by kernel_rfl) rfl #[.agg #[.int .i64 ((rd_T23 l0_0 a1).f0), .int .i64 ((rd_T23 l0_0 a1).f1), .int .i64 ((rd_T23 l0_0 a1).f2), .int .i64 ((rd_T23 l0_0 a1).f3)]] rfl (by (try simp only [List.map_toArray, List.map_cons, List.map_nil]); first | done | rfl | (simp only [List.length_drop, List.length_take]; rfl)) ?_; (with_reducible refine (valid_low.calls ((rd_T23 l0_0 a1).f0) ((rd_T23 l0_0 a1).f1) ((rd_T23 l0_0 a1).f2) ((rd_T23 l0_0 a1).f3) t136 _ A5.out).mono ?_); rintro e w10 ⟨rfl, hb⟩; refine ⟨_, rfl, ?_⟩; have n0_ := Aside0.mk (blk_below (g := gb134) (o := .cells #[.slice (some ad135) l0_0.length c0_0, .slice A0_1 l0_1.length c0_1] 29 (0, 0)) (by (with_reducible repeat (first | refine blk_drewN ?_ _ | refine blk_drew ?_ | refine blk_alloc ?_ _)); exact BK134.out) hb); have n1_ := Aside0.mk (below_step (by repeat (first | (with_reducible first | exact HB.out | apply below_alloc | apply pw_below_drewN | apply below_drew1 | refine below_set ?_ GE134.out) | exact HB.out)) hb); clear BK134; clear HB; have BK134 := n0_; have HB := n1_; clear n0_ n1_; (try clear hb); (try clear hb2); (try clear hk); (try clear hi); have hcz11_0 : w10.cell? ⟨gb134, 0, none⟩ = some (.slice (some ad135) l0_0.length c0_0) := (blk_cell BK134.out 0).trans rfl; have hcz11_1 : w10.cell? ⟨gb134, 1, none⟩ = some (.slice A0_1 l0_1.length c0_1) := (blk_cell BK134.out 1).trans rfl; have hfz11_0 := blk_frozen BK134.out 0; have hfz11_1 := blk_frozen BK134.out 1) | ((with_reducible refine gate_dst (N := 21) rfl ?_); refine Kd.R_make Kd.bool _ 4 rfl (N := 21) rfl 77 _ _ rfl (l0_0.length : Int) rfl rfl Try.underlying77 (.bool false) 1 info4 rfl (by decide) (by omega) false (ok := fun _ => True) (okp := fun _ => True) rfl (fun _ hk => hk) trivial (of_decide_eq_true (by first | (with_reducible assumption) | assumption)) (Nat.le_trans (Nat.mul_le_mul_right _ (of_decide_eq_true (by first | (with_reducible assumption) | assumption) : (l0_0.length : Int).toNat ≤ 281474976710656)) (by omega)) (Below.refl _ _) (Nat.le_refl _) ?_; intro v138 w12 ho13 hb hg_ hnew_; clear hg_ hnew_; (first | rw [← Ny137.out] at ho13 | (simp only [Int.reduceToNat] at ho13; rw [← Ny137.out] at ho13)); have n0_ := Aside0.mk (Kd.R_lower ho13 (below_size (by repeat (first | (with_reducible first | exact HB.out | apply below_alloc | apply pw_below_drewN | apply below_drew1 | refine below_set ?_ GE134.out) | exact HB.out)))); have n1_ := Aside0.mk (blk_below (g := gb134) (o := .cells #[.slice (some ad135) l0_0.length c0_0, .slice A0_1 l0_1.length c0_1] 29 (0, 0)) (by (with_reducible repeat (first | refine blk_drewN ?_ _ | refine blk_drew ?_ | refine blk_alloc ?_ _)); exact BK134.out) hb); have n2_ := Aside0.mk (below_step (by repeat (first | (with_reducible first | exact HB.out | apply below_alloc | apply pw_below_drewN | apply below_drew1 | refine below_set ?_ GE134.out) | exact HB.out)) hb); clear BK134; clear HB; have HO139 := n0_; have BK134 := n1_; have HB := n2_; clear n0_ n1_ n2_; clear hb ho13) | ((with_reducible refine gate_dst (N := 23) rfl ?_); refine Kd.R_lit (Kd.int .i64) _ 3 ?hg (N := 23) ?hd (xs := ([a1] : List Int)) (inner := [.int .i64 a1]) (ok := fun _ => True) (okp := fun _ => True) ?hr ?hp (fun _ hk => hk) trivial (Below.refl _ _) (Nat.le_refl _) (by simp) ?_; (case hd => rfl); (case hg => rfl); (case hr => first | (go_simp; done) | (go_simp; rfl)); (case hp => exact (Reps.one (show Kd.M (Kd.int .i64) _ _ _ a1 [.int .i64 a1] from rfl) (Reps.none _ _))); intro v141 w14 ho15 hb hg_ hnew_; clear hg_ hnew_; (first | rw [← Ny140.out] at ho15 | (simp only [Int.reduceToNat] at ho15; rw [← Ny140.out] at ho15)); have n0_ := Aside0.mk (Kd.R_below (by (with_reducible repeat (first | apply Kd.R_alloc | apply Kd.R_drewN | apply Kd.R_drew)); exact HO139.out) hb); have n1_ := Aside0.mk (Kd.R_lower ho15 (below_size (by repeat (first | (with_reducible first | exact HB.out | apply below_alloc | apply pw_below_drewN | apply below_drew1 | refine below_set ?_ GE134.out) | exact HB.out)))); have n2_ := Aside0.mk (blk_below (g := gb134) (o := .cells #[.slice (some ad135) l0_0.length c0_0, .slice A0_1 l0_1.length c0_1] 29 (0, 0)) (by (with_reducible repeat (first | refine blk_drewN ?_ _ | refine blk_drew ?_ | refine blk_alloc ?_ _)); exact BK134.out) hb); have n3_ := Aside0.mk (below_step (by repeat (first | (with_reducible first | exact HB.out | apply below_alloc | apply pw_below_drewN | apply below_drew1 | refine below_set ?_ GE134.out) | exact HB.out)) hb); clear HO139; clear BK134; clear HB; have HO139 := n0_; have HO142 := n1_; have BK134 := n2_; have HB := n3_; clear n0_ n1_ n2_ n3_; clear hb ho15))
     go_step3
     go_wp2_with (first | ((with_reducible refine gate_dst (N := 2) rfl ?_); refine box_event ?hg (N := 2) ?hd (cs := #[.slice A0_0 l0_0.length c0_0, .slice A0_1 l0_1.length c0_1]) (t := 29) ?hr ?_; (case hd => rfl); (case hg => rfl); (case hr => first | (go_simp; done) | (go_simp; rfl)); intro gb134 hg w8 hbox hb; have n0_ := Aside0.mk (below_step (by repeat (first | (with_reducible first | exact HB.out | apply below_alloc | apply pw_below_drewN | apply below_drew1) | exact HB.out)) hb); have n1_ := Aside0.mk (hbox); have n2_ := Aside0.mk ((by rw [hg]; exact (below_size (by repeat (first | (with_reducible first | exact HB.out | apply below_alloc | apply pw_below_drewN | apply below_drew1) | exact HB.out))) : w.heap.size ≤ gb134)); have n3_ := Aside0.mk ((by rw [hg]; exact (below_size (by repeat (first | (with_reducible first | exact HB.out | apply below_alloc | apply pw_below_drewN | apply below_drew1) | exact HB.out))) : w.heap.size ≤ gb134)); clear HB; have HB := n0_; have BK134 := n1_; have GW134 := n2_; have GE134 := n3_; clear n0_ n1_ n2_ n3_; clear hb hbox hg; have hcz9_0 : w8.cell? ⟨gb134, 0, none⟩ = some (.slice A0_0 l0_0.length c0_0) := (blk_cell BK134.out 0).trans rfl; have hcz9_1 : w8.cell? ⟨gb134, 1, none⟩ = some (.slice A0_1 l0_1.length c0_1) := (blk_cell BK134.out 1).trans rfl; have hfz9_0 := blk_frozen BK134.out 0; have hfz9_1 := blk_frozen BK134.out 1; have p135 : 0 ≤ (a1 : Int) := of_decide_eq_true (by first | (with_reducible assumption) | assumption); have q135 : a1 < (l0_0.length : Int) := of_decide_eq_true (by first | (with_reducible assumption) | assumption); obtain ⟨ad135, e135, hx135_0, hx135_1, hx135_2, hx135_3⟩ := at_T23 HR0_0.out a1 p135 q135; cases e135; replace hx135_0 := (HB.out.cell (World.block_lt_of_cell? w _ hx135_0)).trans hx135_0; replace hx135_1 := (HB.out.cell (World.block_lt_of_cell? w _ hx135_1)).trans hx135_1; replace hx135_2 := (HB.out.cell (World.block_lt_of_cell? w _ hx135_2)).trans hx135_2; replace hx135_3 := (HB.out.cell (World.block_lt_of_cell? w _ hx135_3)).trans hx135_3; replace p135 := eq_true p135; replace q135 := eq_true q135) | ((with_reducible refine gate_callee (f := 78) rfl ?_); refine goesL_ (some 17) rfl rfl Try.func78 (by kernel_rfl) rfl #[.agg #[.int .i64 ((rd_T23 l0_0 a1).f0), .int .i64 ((rd_T23 l0_0 a1).f1), .int .i64 ((rd_T23 l0_0 a1).f2), .int .i64 ((rd_T23 l0_0 a1).f3)]] rfl (by (try simp only [List.map_toArray, List.map_cons, List.map_nil]); first | done | rfl | (simp only [List.length_drop, List.length_take]; rfl)) ?_; (with_reducible refine (valid_low.calls ((rd_T23 l0_0 a1).f0) ((rd_T23 l0_0 a1).f1) ((rd_T23 l0_0 a1).f2) ((rd_T23 l0_0 a1).f3) t136 _ A5.out).mono ?_); rintro e w10 ⟨rfl, hb⟩; refine ⟨_, rfl, ?_⟩; have n0_ := Aside0.mk (blk_below (g := gb134) (o := .cells #[.slice (some ad135) l0_0.length c0_0, .slice A0_1 l0_1.length c0_1] 29 (0, 0)) (by (with_reducible repeat (first | refine blk_drewN ?_ _ | refine blk_drew ?_ | refine blk_alloc ?_ _)); exact BK134.out) hb); have n1_ := Aside0.mk (below_step (by repeat (first | (with_reducible first | exact HB.out | apply below_alloc | apply pw_below_drewN | apply below_drew1 | refine below_set ?_ GE134.out) | exact HB.out)) hb); clear BK134; clear HB; have BK134 := n0_; have HB := n1_; clear n0_ n1_; (try clear hb); (try clear hb2); (try clear hk); (try clear hi); have hcz11_0 : w10.cell? ⟨gb134, 0, none⟩ = some (.slice (some ad135) l0_0.length c0_0) := (blk_cell BK134.out 0).trans rfl; have hcz11_1 : w10.cell? ⟨gb134, 1, none⟩ = some (.slice A0_1 l0_1.length c0_1) := (blk_cell BK134.out 1).trans rfl; have hfz11_0 := blk_frozen BK134.out 0; have hfz11_1 := blk_frozen BK134.out 1) | ((with_reducible refine gate_dst (N := 21) rfl ?_); refine Kd.R_make Kd.bool _ 4 rfl (N := 21) rfl 77 _ _ rfl (l0_0.length : Int) rfl rfl Try.underlying77 (.bool false) 1 info4 rfl (by decide) (by omega) false (ok := fun _ => True) (okp := fun _ => True) rfl (fun _ hk => hk) trivial (of_decide_eq_true (by first | (with_reducible assumption) | assumption)) (Nat.le_trans (Nat.mul_le_mul_right _ (of_decide_eq_true (by first | (with_reducible assumption) | assumption) : (l0_0.length : Int).toNat ≤ 281474976710656)) (by omega)) (Below.refl _ _) (Nat.le_refl _) ?_; intro v138 w12 ho13 hb hg_ hnew_; clear hg_ hnew_; (first | rw [← Ny137.out] at ho13 | (simp only [Int.reduceToNat] at ho13; rw [← Ny137.out] at ho13)); have n0_ := Aside0.mk (Kd.R_lower ho13 (below_size (by repeat (first | (with_reducible first | exact HB.out | apply below_alloc | apply pw_below_drewN | apply below_drew1 | refine below_set ?_ GE134.out) | exact HB.out)))); have n1_ := Aside0.mk (blk_below (g := gb134) (o := .cells #[.slice (some ad135) l0_0.length c0_0, .slice A0_1 l0_1.length c0_1] 29 (0, 0)) (by (with_reducible repeat (first | refine blk_drewN ?_ _ | refine blk_drew ?_ | refine blk_alloc ?_ _)); exact BK134.out) hb); have n2_ := Aside0.mk (below_step (by repeat (first | (with_reducible first | exact HB.out | apply below_alloc | apply pw_below_drewN | apply below_drew1 | refine below_set ?_ GE134.out) | exact HB.out)) hb); clear BK134; clear HB; have HO139 := n0_; have BK134 := n1_; have HB := n2_; clear n0_ n1_ n2_; clear hb ho13) | ((with_reducible refine gate_dst (N := 23) rfl ?_); refine Kd.R_lit (Kd.int .i64) _ 3 ?hg (N := 23) ?hd (xs := ([a1] : List Int)) (inner := [.int .i64 a1]) (ok := fun _ => True) (okp := fun _ => True) ?hr ?hp (fun _ hk => hk) trivial (Below.refl _ _) (Nat.le_refl _) (by simp) ?_; (case hd => rfl); (case hg => rfl); (case hr => first | (go_simp; done) | (go_simp; rfl)); (case hp => exact (Reps.one (show Kd.M (Kd.int .i64) _ _ _ a1 [.int .i64 a1] from rfl) (Reps.none _ _))); intro v141 w14 ho15 hb hg_ hnew_; clear hg_ hnew_; (first | rw [← Ny140.out] at ho15 | (simp only [Int.reduceToNat] at ho15; rw [← Ny140.out] at ho15)); have n0_ := Aside0.mk (Kd.R_below (by (with_reducible repeat (first | apply Kd.R_alloc | apply Kd.R_drewN | apply Kd.R_drew)); exact HO139.out) hb); have n1_ := Aside0.mk (Kd.R_lower ho15 (below_size (by repeat (first | (with_reducible first | exact HB.out | apply below_alloc | apply pw_below_drewN | apply below_drew1 | refine below_set ?_ GE134.out) | exact HB.out)))); have n2_ := Aside0.mk (blk_below (g := gb134) (o := .cells #[.slice (some ad135) l0_0.length c0_0, .slice A0_1 l0_1.length c0_1] 29 (0, 0)) (by (with_reducible repeat (first | refine blk_drewN ?_ _ | refine blk_drew ?_ | refine blk_alloc ?_ _)); exact BK134.out) hb); have n3_ := Aside0.mk (below_step (by repeat (first | (with_reducible first | exact HB.out | apply below_alloc | apply pw_below_drewN | apply below_drew1 | refine below_set ?_ GE134.out) | exact HB.out)) hb); clear HO139; clear BK134; clear HB; have HO139 := n0_; have HO142 := n1_; have BK134 := n2_; have HB := n3_; clear n0_ n1_ n2_ n3_; clear hb ho15))
     go_step3
     go_wp2_with (fail)
     go_loopg [7] k (fun kq v7 w' => ∃ (x6_1 : List Bool) (x7_1 : List Int), Aside0 (valid_round.l0 kq a1 t136 x6_1 x7_1 l0_0 l0_1 = some r) ∧ Aside0 (kq ≤ k) ∧ Aside0 (Kd.R Kd.bool 4 w' w.heap.size (fun _ => True) v138 x6_1) ∧ Aside0 (Kd.Q (Kd.int .i64) 3 w' w.heap.size (fun _ => True) v7 x7_1) ∧ Aside0 (w'.heap[gb134]? = some (.cells #[(.slice (some ad135) l0_0.length c0_0), (.slice A0_1 l0_1.length c0_1)] 29 (0, 0))) ∧ Aside0 (Below w.heap.size w w'))
     case atStart => exact ⟨(y137), (y140), H', ⟨Nat.le_refl _⟩, ⟨by (with_reducible repeat (first | apply Kd.R_alloc | apply Kd.R_drewN | apply Kd.R_drew)); exact HO139.out⟩, ⟨Kd.Q_of_R (by (with_reducible repeat (first | apply Kd.R_alloc | apply Kd.R_drewN | apply Kd.R_drew)); exact HO142.out)⟩, ⟨by (with_reducible repeat (first | refine blk_drewN ?_ _ | refine blk_drew ?_ | refine blk_alloc ?_ _)); exact BK134.out⟩, ⟨by repeat (first | (with_reducible first | exact HB.out | apply below_alloc | apply pw_below_drewN | apply below_drew1 | refine below_set ?_ GE134.out) | exact HB.out)⟩⟩
     case round =>
      clear H'
      try clear p1
      try clear q1
      try clear hx1
      try clear p2
      try clear c3
      try clear c3b0
      try clear c4
      try clear c4b0
      try clear c6
      try clear c6b0
      try clear c6b1
      try clear c7
      try clear c7b0
      try clear c7b1
      try clear p13
      try clear q13
      try clear hx13
      try clear hcz11_0
      try clear hcz11_1
      try clear hcz9_0
      try clear hcz9_1
      try clear hfz11_0
      try clear hfz11_1
      try clear hfz9_0
      try clear hfz9_1
      try clear hx135_0
      try clear hx135_1
      try clear hx135_2
      try clear hx135_3
      try clear p135
      try clear q135
      obtain ⟨x6_1, x7_1, HA, HK1, HO_6, HO_7, BK134, HB⟩ := hrel
      cases gk with
      | zero => exact absurd HA.out (by simp [valid_round.l0])
      | succ k1 =>
       have H := HA.out
       clear HA
       simp only [valid_round.l0] at H
       by_cases c16 : (x7_1.length : Int) > 0
       ·rw [if_pos c16] at H
        have c16b0 : decide (0 < (x7_1.length : Int)) = true := decide_eq_true c16
        have c16b1 : decide (0 < x7_1.length) = true := decide_eq_true (by omega)
        clear c16
        by_cases c17 : 0 < (x7_1.length : Int)
        ·rw [if_pos c17] at H
         have c17b0 : decide (0 < (x7_1.length : Int)) = true := decide_eq_true c17
         have c17b1 : decide (0 < x7_1.length) = true := decide_eq_true (by omega)
         clear c17
         by_cases c18 : 1 ≤ (x7_1.length : Int)
         ·rw [if_pos c18] at H
          have c18b0 := eq_true c18
          have c18b1 : decide (1 ≤ (x7_1.length : Int)) = true := decide_eq_true c18
          clear c18
          obtain ⟨y145, hy145⟩ : ∃ y_ : List Int, y_ = (x7_1.drop (1 : Int).toNat) := ⟨_, rfl⟩
          replace H : ((graph_Next.f k1 l0_0 l0_1 (rd x7_1 0)).bind fun t148 => (valid_round.l1 k1 a1 t136 x6_1 y145 t148 (t148.length : Int) 0 l0_0 l0_1)) = some r := by first | (rw [hy145]; with_reducible exact H) | (have H2_ := (Option.bind_some _ _).symm.trans H; rw [hy145]; with_reducible exact H2_) | (have H2_ := (Option.bind_some _ _).symm.trans H; with_reducible exact H2_) | with_reducible exact H | (rw [hy145]; exact H) | exact H
          have Ny145 := Aside0.mk hy145
          clear hy145
          replace H := Option.bind_eq_some_iff.mp H
          obtain ⟨t148, A190, H⟩ := H
          replace H : (valid_round.l1 k1 a1 t136 x6_1 y145 t148 (t148.length : Int) 0 l0_0 l0_1) = some r := H
          have A19 := Aside0.mk A190
          clear A190
          have H' := Aside0.mk H
          clear H
          obtain ⟨Ao20, co20, eo20, _⟩ := Kd.Q_slice HO_7.out
          subst eo20
          have p144 : 0 ≤ (0 : Int) := (by omega)
          have q144 : 0 < (x7_1.length : Int) := of_decide_eq_true (by first | (with_reducible assumption) | assumption)
          obtain ⟨ad144, e144, hx144_0⟩ := Kd.at_int (Kd.Q_reads' HO_7.out).2.2 0 p144 q144
          cases e144
          have qi144 : (0 < x7_1.length) = True := eq_true (by omega)
          (try rw [show ((0 : Int)).toNat = 0 from rfl] at hx144_0)
          (try rw [Addr.add_zero'] at hx144_0)
          replace p144 := eq_true p144
          replace q144 := eq_true q144
          have q21 : (1 : Int) ≤ ((x7_1.length : Int) : Int) := of_decide_eq_true (by first | (with_reducible assumption) | assumption)
          obtain ⟨i021, hi021, _, hsz21, _⟩ := info_parts info3
          have hcut21 := cut_from (P := Try.prog) 39 3 .i64 Try.underlying39 hi021 1 hsz21 (some ad144) x7_1.length co20 1 (by omega) q21
          have hr21 := Kd.Q_drop (k := (1 : Int).toNat) HO_7.out (by omega)
          obtain ⟨A21, hA21⟩ : ∃ A1, A1 = (if co20 = (1 : Int).toNat then (some ad144) else ((some ad144) : Option Addr).map (·.add ((1 : Int).toNat * 1))) := ⟨_, rfl⟩
          obtain ⟨c21, hc21⟩ : ∃ c1, c1 = co20 - (1 : Int).toNat := ⟨_, rfl⟩
          have hy21 : y145.length = x7_1.length - (1 : Int).toNat := (by rw [Ny145.out, List.length_drop])
          rw [← Ny145.out] at hr21
          rw [← hy21, ← hA21, ← hc21] at hcut21
          replace hr21 : Kd.Q (Kd.int .i64) 3 wr w.heap.size (fun _ => True) (.slice A21 y145.length c21) y145 := (by rw [hA21, hc21, hy21]; exact hr21)
          have HE21 : Aside0 ((Value.slice A21 y145.length c21).ownBlock = (.slice (some ad144) x7_1.length co20 : Value).ownBlock) := ⟨by rw [hA21]; split <;> (cases ((some ad144) : Option Addr) <;> rfl)⟩
          clear hy21 hi021 hsz21 HO_7 hA21 hc21
          have HO147 := Aside0.mk hr21
          clear hr21
          replace q21 := eq_true q21
          have hcz22_0 : wr.cell? ⟨gb134, 0, none⟩ = some (.slice (some ad135) l0_0.length c0_0) := (blk_cell BK134.out 0).trans rfl
          have hcz22_1 : wr.cell? ⟨gb134, 1, none⟩ = some (.slice A0_1 l0_1.length c0_1) := (blk_cell BK134.out 1).trans rfl
          have hfz22_0 := blk_frozen BK134.out 0
          have hfz22_1 := blk_frozen BK134.out 1
          go_wp2_with (first | ((with_reducible refine gate_callee (f := 17) rfl ?_); refine goesL_ (some 34) rfl rfl Try.func17 (by kernel_rfl) rfl #[.agg #[.slice (some ad135) l0_0.length c0_0, .slice A0_1 l0_1.length c0_1], .int .i64 (rd x7_1 0)] rfl (by (try simp only [List.map_toArray, List.map_cons, List.map_nil]); first | done | rfl | (simp only [List.length_drop, List.length_take]; rfl)) ?_; (with_reducible refine (graph_Next.calls k1 _ _ l0_0 _ _ l0_1 (rd x7_1 0) t148 _ ?side1 ?side2 ?side3 ?side4 A19.out).mono ?_); (case side1 => repeat (first | exact (Kd.C_below HR0_0.out HB.out) | (with_reducible refine Kd.C_alloc ?_ _) | (with_reducible refine Kd.C_drewN ?_ _) | (with_reducible refine Kd.C_drew ?_))); (case side2 => exact HC0_0.out); (case side3 => repeat (first | exact (Kd.C_below HR0_1.out HB.out) | (with_reducible refine Kd.C_alloc ?_ _) | (with_reducible refine Kd.C_drewN ?_ _) | (with_reducible refine Kd.C_drew ?_))); (case side4 => exact HC0_1.out); rintro e w23 ⟨v149, rfl, ho0, hb⟩; refine ⟨_, rfl, ?_⟩; have n0_ := Aside0.mk (Kd.R_below (by (with_reducible repeat (first | apply Kd.R_alloc | apply Kd.R_drewN | apply Kd.R_drew)); exact HO_6.out) hb); have n1_ := Aside0.mk (Kd.Q_below (by (with_reducible repeat (first | apply Kd.Q_alloc | apply Kd.Q_drewN | apply Kd.Q_drew)); exact HO147.out) hb); have n2_ := Aside0.mk (Kd.R_lower ho0 (below_size (by repeat (first | (with_reducible first | exact HB.out | apply below_alloc | apply pw_below_drewN | apply below_drew1 | refine below_set ?_ GE134.out) | exact HB.out)))); have n3_ := Aside0.mk (blk_below (g := gb134) (o := .cells #[.slice (some ad135) l0_0.length c0_0, .slice A0_1 l0_1.length c0_1] 29 (0, 0)) (by (with_reducible repeat (first | refine blk_drewN ?_ _ | refine blk_drew ?_ | refine blk_alloc ?_ _)); exact BK134.out) hb); have n4_ := Aside0.mk (below_step (by repeat (first | (with_reducible first | exact HB.out | apply below_alloc | apply pw_below_drewN | apply below_drew1 | refine below_set ?_ GE134.out) | exact HB.out)) hb); clear HO_6; clear HO147; clear BK134; clear HB; have HO_6 := n0_; have HO147 := n1_; have HO150 := n2_; have BK134 := n3_; have HB := n4_; clear n0_ n1_ n2_ n3_ n4_; (try clear hb); (try clear hb2); (try clear hk); (try clear hi); (try clear ho0); obtain ⟨Ao24, co24, eo24⟩ := Kd.R_slice HO150.out; subst eo24))
          go_loopg [7, 36] k1 (fun kq v7 v36 w' => ∃ (x6_2 : List Bool) (x7_2 : List Int) (x36_2 : Int), v36 = .int .i64 x36_2 ∧ Aside0 (valid_round.l1 kq a1 t136 x6_2 x7_2 t148 (t148.length : Int) x36_2 l0_0 l0_1 = some r) ∧ Aside0 (kq ≤ k1) ∧ Aside0 (Kd.R Kd.bool 4 w' w.heap.size (fun _ => True) v138 x6_2) ∧ Aside0 (Kd.Q (Kd.int .i64) 3 w' w.heap.size (fun _ => True) v7 x7_2) ∧ Aside0 (Kd.R k47 47 w' w.heap.size (fun _ => True) (.slice Ao24 t148.length co24) t148) ∧ Aside0 (w'.heap[gb134]? = some (.cells #[(.slice (some ad135) l0_0.length c0_0), (.slice A0_1 l0_1.length c0_1)] 29 (0, 0))) ∧ Aside0 (Below w.heap.size w w'))
          case atStart => exact ⟨(x6_1), (y145), (0), (by first | rfl | (simp; done) | (simp [*]; done)), H', ⟨Nat.le_refl _⟩, ⟨by (with_reducible repeat (first | apply Kd.R_alloc | apply Kd.R_drewN | apply Kd.R_drew)); exact HO_6.out⟩, ⟨by (with_reducible repeat (first | apply Kd.Q_alloc | apply Kd.Q_drewN | apply Kd.Q_drew)); exact HO147.out⟩, ⟨by (with_reducible repeat (first | apply Kd.R_alloc | apply Kd.R_drewN | apply Kd.R_drew)); exact HO150.out⟩, ⟨by (with_reducible repeat (first | refine blk_drewN ?_ _ | refine blk_drew ?_ | refine blk_alloc ?_ _)); exact BK134.out⟩, ⟨by repeat (first | (with_reducible first | exact HB.out | apply below_alloc | apply pw_below_drewN | apply below_drew1 | refine below_set ?_ GE134.out) | exact HB.out)⟩⟩
          case round =>
           clear H'
           try clear c1
           try clear p1
           try clear q1
           try clear hx1
           try clear qi1
           try clear c2
           try clear p2
           try clear q2
           try clear c3
           try clear c3b0
           try clear c4
           try clear c4b0
           try clear c6
           try clear c6b0
           try clear c6b1
           try clear c7
           try clear c7b0
           try clear c7b1
           try clear p13
           try clear q13
           try clear hx13
           try clear p14
           try clear q14
           try clear hx14
           try clear qi14
           try clear c16
           try clear c16b0
           try clear c16b1
           try clear c17
           try clear c17b0
           try clear c17b1
           try clear c18
           try clear c18b0
           try clear c18b1
           try clear c21
           try clear q21
           try clear hcz11_0
           try clear hcz11_1
           try clear hcz22_0
           try clear hcz22_1
           try clear hcz9_0
           try clear hcz9_1
           try clear hfz11_0
           try clear hfz11_1
           try clear hfz22_0
           try clear hfz22_1
           try clear hfz9_0
           try clear hfz9_1
           try clear hx135_0
           try clear hx135_1
           try clear hx135_2
           try clear hx135_3
           try clear hx144_0
           try clear p1
           try clear p13
           try clear p135
           try clear p144
           try clear p2
           try clear q1
           try clear q13
           try clear q135
           try clear q144
           try clear q21
           obtain ⟨x6_2, x7_2, x36_2, rfl, HA, HK2, HO_6, HO_7, HO_34, BK134, HB⟩ := hrel
           cases gk with
           | zero => exact absurd HA.out (by simp [valid_round.l1])
           | succ k2 =>
            have H := HA.out
            clear HA
            simp only [valid_round.l1] at H
            by_cases c25 : x36_2 < (t148.length : Int)
            ·rw [if_pos c25] at H
             have c25b0 : decide (x36_2 < (t148.length : Int)) = true := decide_eq_true c25
             clear c25
             by_cases c26 : 0 ≤ x36_2
             ·rw [if_pos c26] at H
              have c26b0 : decide (0 ≤ x36_2) = true := decide_eq_true c26
              clear c26
              by_cases c27 : x36_2 < (t148.length : Int)
              ·rw [if_pos c27] at H
               have c27b0 : decide (x36_2 < (t148.length : Int)) = true := decide_eq_true c27
               clear c27
               by_cases c28 : 0 ≤ ((rd_T47 t148 x36_2).f0)
               ·rw [if_pos c28] at H
                have c28b0 : decide (0 ≤ ((rd_T47 t148 x36_2).f0)) = true := decide_eq_true c28
                clear c28
                by_cases c29 : ((rd_T47 t148 x36_2).f0) < (l0_0.length : Int)
                ·rw [if_pos c29] at H
                 have c29b0 : decide (((rd_T47 t148 x36_2).f0) < (l0_0.length : Int)) = true := decide_eq_true c29
                 clear c29
                 by_cases c30 : ((rd_T47 t148 x36_2).f0) < (x6_2.length : Int)
                 ·rw [if_pos c30] at H
                  have c30b0 : decide (((rd_T47 t148 x36_2).f0) < (x6_2.length : Int)) = true := decide_eq_true c30
                  clear c30
                  have HC31 := Aside0.mk H
                  clear H
                  have p151 : 0 ≤ (x36_2 : Int) := of_decide_eq_true (by first | (with_reducible assumption) | assumption)
                  have q151 : x36_2 < (t148.length : Int) := of_decide_eq_true (by first | (with_reducible assumption) | assumption)
                  obtain ⟨ad151, e151, hx151_0, hx151_1⟩ := at_T47 (Kd.R_reads' HO_34.out).2.2 x36_2 p151 q151
                  cases e151
                  replace p151 := eq_true p151
                  replace q151 := eq_true q151
                  go_upto_if 46 with (first | ((with_reducible refine gate_dst (N := 10) rfl ?_); refine box_event ?hg (N := 10) ?hd (cs := #[.int .i64 0, .int .i64 0]) (t := 47) ?hr ?_; (case hd => rfl); (case hg => rfl); (case hr => first | (go_simp; done) | (go_simp; rfl)); intro gb152 hg w32 hbox hb; have n0_ := Aside0.mk (Kd.R_below (by (with_reducible repeat (first | apply Kd.R_alloc | apply Kd.R_drewN | apply Kd.R_drew)); exact HO_6.out) hb); have n1_ := Aside0.mk (Kd.Q_below (by (with_reducible repeat (first | apply Kd.Q_alloc | apply Kd.Q_drewN | apply Kd.Q_drew)); exact HO_7.out) hb); have n2_ := Aside0.mk (Kd.R_below (Kd.R_elderB (by (with_reducible repeat (first | apply Kd.R_alloc | apply Kd.R_drewN | apply Kd.R_drew)); exact HO_34.out) gb152 (Nat.le_of_eq hg.symm)) hb); have n3_ := Aside0.mk (blk_below (g := gb134) (o := .cells #[.slice (some ad135) l0_0.length c0_0, .slice A0_1 l0_1.length c0_1] 29 (0, 0)) (by (with_reducible repeat (first | refine blk_drewN ?_ _ | refine blk_drew ?_ | refine blk_alloc ?_ _)); exact BK134.out) hb); have n4_ := Aside0.mk (below_step (by repeat (first | (with_reducible first | exact HB.out | apply below_alloc | apply pw_below_drewN | apply below_drew1 | refine below_set ?_ GE134.out) | exact HB.out)) hb); have n5_ := Aside0.mk (hbox); have n6_ := Aside0.mk ((by rw [hg]; exact (below_size (by repeat (first | (with_reducible first | exact HB.out | apply below_alloc | apply pw_below_drewN | apply below_drew1 | refine below_set ?_ GE134.out) | exact HB.out))) : w.heap.size ≤ gb152)); have n7_ := Aside0.mk ((by rw [hg]; exact (below_size (by repeat (first | (with_reducible first | exact HB.out | apply below_alloc | apply pw_below_drewN | apply below_drew1 | refine below_set ?_ GE134.out) | exact HB.out))) : w.heap.size ≤ gb152)); have n8_ := Aside0.mk ((by rw [hg]; exact Nat.ne_of_lt (blk_lt (g := gb134) (o := .cells #[.slice (some ad135) l0_0.length c0_0, .slice A0_1 l0_1.length c0_1] 29 (0, 0)) (by (with_reducible repeat (first | refine blk_drewN ?_ _ | refine blk_drew ?_ | refine blk_alloc ?_ _)); exact BK134.out)) : gb134 ≠ gb152)); have n9_ := Aside0.mk ((by rw [hg]; exact Nat.ne_of_gt (blk_lt (g := gb134) (o := .cells #[.slice (some ad135) l0_0.length c0_0, .slice A0_1 l0_1.length c0_1] 29 (0, 0)) (by (with_reducible repeat (first | refine blk_drewN ?_ _ | refine blk_drew ?_ | refine blk_alloc ?_ _)); exact BK134.out)) : gb152 ≠ gb134)); clear HO_6; clear HO_7; clear HO_34; clear BK134; clear HB; have HO_6 := n0_; have HO_7 := n1_; have HO_34 := n2_; have BK134 := n3_; have HB := n4_; have BK152 := n5_; have GW152 := n6_; have GE152 := n7_; have NB134_152 := n8_; have NB152_134 := n9_; clear n0_ n1_ n2_ n3_ n4_ n5_ n6_ n7_ n8_ n9_; clear hb hbox hg; have hnb33 := NB152_134.out; have hnc33 := NB134_152.out; have hcz34_0 : w32.cell? ⟨gb152, 0, none⟩ = some (.int .i64 0) := (blk_cell BK152.out 0).trans rfl; have hcz34_1 : w32.cell? ⟨gb152, 1, none⟩ = some (.int .i64 0) := (blk_cell BK152.out 1).trans rfl; have hfz34_0 := blk_frozen BK152.out 0; have hfz34_1 := blk_frozen BK152.out 1; have hcz35_0 : w32.cell? ⟨gb134, 0, none⟩ = some (.slice (some ad135) l0_0.length c0_0) := (blk_cell BK134.out 0).trans rfl; have hcz35_1 : w32.cell? ⟨gb134, 1, none⟩ = some (.slice A0_1 l0_1.length c0_1) := (blk_cell BK134.out 1).trans rfl; have hfz35_0 := blk_frozen BK134.out 0; have hfz35_1 := blk_frozen BK134.out 1; have p153 : 0 ≤ (((rd_T47 t148 x36_2).f0) : Int) := of_decide_eq_true (by first | (with_reducible assumption) | assumption); have q153 : ((rd_T47 t148 x36_2).f0) < (l0_0.length : Int) := of_decide_eq_true (by first | (with_reducible assumption) | assumption); obtain ⟨ad153, e153, hx153_0, hx153_1, hx153_2, hx153_3⟩ := at_T23 HR0_0.out ((rd_T47 t148 x36_2).f0) p153 q153; obtain rfl : ad135 = ad153 := (by injection e153); have hn153_0 : ad135.block ≠ gb152 := Nat.ne_of_lt (Nat.lt_of_lt_of_le (by have := World.block_lt_of_cell? _ _ hx153_0; first | rwa [add_block] at this | exact this) GW152.out); have hn153_1 : ad135.block ≠ gb152 := Nat.ne_of_lt (Nat.lt_of_lt_of_le (by have := World.block_lt_of_cell? _ _ hx153_0; first | rwa [add_block] at this | exact this) GW152.out); replace hx153_0 := (HB.out.cell (World.block_lt_of_cell? w _ hx153_0)).trans hx153_0; replace hx153_1 := (HB.out.cell (World.block_lt_of_cell? w _ hx153_1)).trans hx153_1; replace hx153_2 := (HB.out.cell (World.block_lt_of_cell? w _ hx153_2)).trans hx153_2; replace hx153_3 := (HB.out.cell (World.block_lt_of_cell? w _ hx153_3)).trans hx153_3; replace hx153_0 := (cell_far (p := ⟨gb152, 0, none⟩) (by first | (rw [add_block]; exact hn153_0) | (show (Addr.add _ _).block ≠ _; rw [add_block]; exact hn153_0) | exact hn153_0) (.int .i64 ((rd_T47 t148 x36_2).f0))).trans hx153_0; replace hx153_1 := (cell_far (p := ⟨gb152, 0, none⟩) (by first | (rw [add_block]; exact hn153_0) | (show (Addr.add _ _).block ≠ _; rw [add_block]; exact hn153_0) | exact hn153_0) (.int .i64 ((rd_T47 t148 x36_2).f0))).trans hx153_1; replace hx153_2 := (cell_far (p := ⟨gb152, 0, none⟩) (by first | (rw [add_block]; exact hn153_0) | (show (Addr.add _ _).block ≠ _; rw [add_block]; exact hn153_0) | exact hn153_0) (.int .i64 ((rd_T47 t148 x36_2).f0))).trans hx153_2; replace hx153_3 := (cell_far (p := ⟨gb152, 0, none⟩) (by first | (rw [add_block]; exact hn153_0) | (show (Addr.add _ _).block ≠ _; rw [add_block]; exact hn153_0) | exact hn153_0) (.int .i64 ((rd_T47 t148 x36_2).f0))).trans hx153_3; replace hx153_0 := (cell_far (p := ⟨gb152, 1, none⟩) (by first | (rw [add_block]; exact hn153_1) | (show (Addr.add _ _).block ≠ _; rw [add_block]; exact hn153_1) | exact hn153_1) (.int .i64 ((rd_T47 t148 x36_2).f1))).trans hx153_0; replace hx153_1 := (cell_far (p := ⟨gb152, 1, none⟩) (by first | (rw [add_block]; exact hn153_1) | (show (Addr.add _ _).block ≠ _; rw [add_block]; exact hn153_1) | exact hn153_1) (.int .i64 ((rd_T47 t148 x36_2).f1))).trans hx153_1; replace hx153_2 := (cell_far (p := ⟨gb152, 1, none⟩) (by first | (rw [add_block]; exact hn153_1) | (show (Addr.add _ _).block ≠ _; rw [add_block]; exact hn153_1) | exact hn153_1) (.int .i64 ((rd_T47 t148 x36_2).f1))).trans hx153_2; replace hx153_3 := (cell_far (p := ⟨gb152, 1, none⟩) (by first | (rw [add_block]; exact hn153_1) | (show (Addr.add _ _).block ≠ _; rw [add_block]; exact hn153_1) | exact hn153_1) (.int .i64 ((rd_T47 t148 x36_2).f1))).trans hx153_3; clear hn153_0; clear hn153_1; replace p153 := eq_true p153; replace q153 := eq_true q153) | ((with_reducible refine gate_dst (N := 11) rfl ?_); refine box_event ?hg (N := 11) ?hd (cs := #[.int .i64 0, .int .i64 0, .int .i64 0, .int .i64 0]) (t := 23) ?hr ?_; (case hd => rfl); (case hg => rfl); (case hr => first | (go_simp; done) | (go_simp; rfl)); intro gb154 hg w36 hbox hb; have n0_ := Aside0.mk (Kd.R_below (by (with_reducible repeat (first | apply Kd.R_alloc | apply Kd.R_drewN | apply Kd.R_drew)); exact (Kd.R_mono (Kd.R_far (p := ⟨gb152, 1, none⟩) (Kd.R_far (p := ⟨gb152, 0, none⟩) (Kd.R_types HO_6.out BK152.out (by decide)) (fun _ hk => hk.2) (.int .i64 ((rd_T47 t148 x36_2).f0))) (fun _ hk => hk.2) (.int .i64 ((rd_T47 t148 x36_2).f1))) (fun _ h_ => h_.1))) hb); have n1_ := Aside0.mk (Kd.Q_below (by (with_reducible repeat (first | apply Kd.Q_alloc | apply Kd.Q_drewN | apply Kd.Q_drew)); exact (Kd.Q_mono (Kd.Q_far (p := ⟨gb152, 1, none⟩) (Kd.Q_far (p := ⟨gb152, 0, none⟩) (Kd.Q_types HO_7.out BK152.out (by decide)) (fun _ hk => hk.2) (.int .i64 ((rd_T47 t148 x36_2).f0))) (fun _ hk => hk.2) (.int .i64 ((rd_T47 t148 x36_2).f1))) (fun _ h_ => h_.1))) hb); have n2_ := Aside0.mk (Kd.R_below (by (with_reducible repeat (first | apply Kd.R_alloc | apply Kd.R_drewN | apply Kd.R_drew)); exact (Kd.R_mono (Kd.R_far (p := ⟨gb152, 1, none⟩) (Kd.R_far (p := ⟨gb152, 0, none⟩) (Kd.R_mono HO_34.out (fun k_ hk => (⟨hk, hk.2⟩ : _ ∧ k_ ≠ gb152))) (fun _ hk => hk.2) (.int .i64 ((rd_T47 t148 x36_2).f0))) (fun _ hk => hk.2) (.int .i64 ((rd_T47 t148 x36_2).f1))) (fun _ h_ => h_.1))) hb); have n3_ := Aside0.mk (blk_below (g := gb134) (o := .cells #[.slice (some ad135) l0_0.length c0_0, .slice A0_1 l0_1.length c0_1] 29 (0, 0)) (by (with_reducible repeat (first | refine blk_drewN ?_ _ | refine blk_drew ?_ | refine blk_alloc ?_ _)); refine blk_far ?_ NB134_152.out _; (with_reducible repeat (first | refine blk_drewN ?_ _ | refine blk_drew ?_ | refine blk_alloc ?_ _)); refine blk_far ?_ NB134_152.out _; (with_reducible repeat (first | refine blk_drewN ?_ _ | refine blk_drew ?_ | refine blk_alloc ?_ _)); exact BK134.out) hb); have n4_ := Aside0.mk (blk_below (g := gb152) (o := .cells #[.int .i64 ((rd_T47 t148 x36_2).f0), .int .i64 ((rd_T47 t148 x36_2).f1)] 47 (0, 0)) (by (with_reducible repeat (first | refine blk_drewN ?_ _ | refine blk_drew ?_ | refine blk_alloc ?_ _)); refine blk_put (cs := #[.int .i64 ((rd_T47 t148 x36_2).f0), .int .i64 0]) ?_ 1 _ rfl; (with_reducible repeat (first | refine blk_drewN ?_ _ | refine blk_drew ?_ | refine blk_alloc ?_ _)); refine blk_put (cs := #[.int .i64 0, .int .i64 0]) ?_ 0 _ rfl; (with_reducible repeat (first | refine blk_drewN ?_ _ | refine blk_drew ?_ | refine blk_alloc ?_ _)); exact BK152.out) hb); have n5_ := Aside0.mk (below_step (by repeat (first | (with_reducible first | exact HB.out | apply below_alloc | apply pw_below_drewN | apply below_drew1 | refine below_set ?_ GE134.out | refine below_set ?_ GE152.out) | exact HB.out)) hb); have n6_ := Aside0.mk (hbox); have n7_ := Aside0.mk ((by rw [hg]; exact (below_size (by repeat (first | (with_reducible first | exact HB.out | apply below_alloc | apply pw_below_drewN | apply below_drew1 | refine below_set ?_ GE134.out | refine below_set ?_ GE152.out) | exact HB.out))) : w.heap.size ≤ gb154)); have n8_ := Aside0.mk ((by rw [hg]; exact (below_size (by repeat (first | (with_reducible first | exact HB.out | apply below_alloc | apply pw_below_drewN | apply below_drew1 | refine below_set ?_ GE134.out | refine below_set ?_ GE152.out) | exact HB.out))) : w.heap.size ≤ gb154)); have n9_ := Aside0.mk ((by rw [hg]; exact Nat.ne_of_lt (blk_lt (g := gb134) (o := .cells #[.slice (some ad135) l0_0.length c0_0, .slice A0_1 l0_1.length c0_1] 29 (0, 0)) (by (with_reducible repeat (first | refine blk_drewN ?_ _ | refine blk_drew ?_ | refine blk_alloc ?_ _)); refine blk_far ?_ NB134_152.out _; (with_reducible repeat (first | refine blk_drewN ?_ _ | refine blk_drew ?_ | refine blk_alloc ?_ _)); refine blk_far ?_ NB134_152.out _; (with_reducible repeat (first | refine blk_drewN ?_ _ | refine blk_drew ?_ | refine blk_alloc ?_ _)); exact BK134.out)) : gb134 ≠ gb154)); have n10_ := Aside0.mk ((by rw [hg]; exact Nat.ne_of_gt (blk_lt (g := gb134) (o := .cells #[.slice (some ad135) l0_0.length c0_0, .slice A0_1 l0_1.length c0_1] 29 (0, 0)) (by (with_reducible repeat (first | refine blk_drewN ?_ _ | refine blk_drew ?_ | refine blk_alloc ?_ _)); refine blk_far ?_ NB134_152.out _; (with_reducible repeat (first | refine blk_drewN ?_ _ | refine blk_drew ?_ | refine blk_alloc ?_ _)); refine blk_far ?_ NB134_152.out _; (with_reducible repeat (first | refine blk_drewN ?_ _ | refine blk_drew ?_ | refine blk_alloc ?_ _)); exact BK134.out)) : gb154 ≠ gb134)); have n11_ := Aside0.mk ((by rw [hg]; exact Nat.ne_of_lt (blk_lt (g := gb152) (o := .cells #[.int .i64 ((rd_T47 t148 x36_2).f0), .int .i64 ((rd_T47 t148 x36_2).f1)] 47 (0, 0)) (by (with_reducible repeat (first | refine blk_drewN ?_ _ | refine blk_drew ?_ | refine blk_alloc ?_ _)); refine blk_put (cs := #[.int .i64 ((rd_T47 t148 x36_2).f0), .int .i64 0]) ?_ 1 _ rfl; (with_reducible repeat (first | refine blk_drewN ?_ _ | refine blk_drew ?_ | refine blk_alloc ?_ _)); refine blk_put (cs := #[.int .i64 0, .int .i64 0]) ?_ 0 _ rfl; (with_reducible repeat (first | refine blk_drewN ?_ _ | refine blk_drew ?_ | refine blk_alloc ?_ _)); exact BK152.out)) : gb152 ≠ gb154)); have n12_ := Aside0.mk ((by rw [hg]; exact Nat.ne_of_gt (blk_lt (g := gb152) (o := .cells #[.int .i64 ((rd_T47 t148 x36_2).f0), .int .i64 ((rd_T47 t148 x36_2).f1)] 47 (0, 0)) (by (with_reducible repeat (first | refine blk_drewN ?_ _ | refine blk_drew ?_ | refine blk_alloc ?_ _)); refine blk_put (cs := #[.int .i64 ((rd_T47 t148 x36_2).f0), .int .i64 0]) ?_ 1 _ rfl; (with_reducible repeat (first | refine blk_drewN ?_ _ | refine blk_drew ?_ | refine blk_alloc ?_ _)); refine blk_put (cs := #[.int .i64 0, .int .i64 0]) ?_ 0 _ rfl; (with_reducible repeat (first | refine blk_drewN ?_ _ | refine blk_drew ?_ | refine blk_alloc ?_ _)); exact BK152.out)) : gb154 ≠ gb152)); clear HO_6; clear HO_7; clear HO_34; clear BK134; clear BK152; clear HB; have HO_6 := n0_; have HO_7 := n1_; have HO_34 := n2_; have BK134 := n3_; have BK152 := n4_; have HB := n5_; have BK154 := n6_; have GW154 := n7_; have GE154 := n8_; have NB134_154 := n9_; have NB154_134 := n10_; have NB152_154 := n11_; have NB154_152 := n12_; clear n0_ n1_ n2_ n3_ n4_ n5_ n6_ n7_ n8_ n9_ n10_ n11_ n12_; clear hb hbox hg; have hnb37 := NB154_134.out; have hnc37 := NB134_154.out; have hnb38 := NB154_152.out; have hnc38 := NB152_154.out; have hcz39_0 : w36.cell? ⟨gb154, 0, none⟩ = some (.int .i64 0) := (blk_cell BK154.out 0).trans rfl; have hcz39_1 : w36.cell? ⟨gb154, 1, none⟩ = some (.int .i64 0) := (blk_cell BK154.out 1).trans rfl; have hcz39_2 : w36.cell? ⟨gb154, 2, none⟩ = some (.int .i64 0) := (blk_cell BK154.out 2).trans rfl; have hcz39_3 : w36.cell? ⟨gb154, 3, none⟩ = some (.int .i64 0) := (blk_cell BK154.out 3).trans rfl; have hfz39_0 := blk_frozen BK154.out 0; have hfz39_1 := blk_frozen BK154.out 1; have hfz39_2 := blk_frozen BK154.out 2; have hfz39_3 := blk_frozen BK154.out 3; have hcz40_0 : w36.cell? ⟨gb152, 0, none⟩ = some (.int .i64 ((rd_T47 t148 x36_2).f0)) := (blk_cell BK152.out 0).trans rfl; have hcz40_1 : w36.cell? ⟨gb152, 1, none⟩ = some (.int .i64 ((rd_T47 t148 x36_2).f1)) := (blk_cell BK152.out 1).trans rfl; have hfz40_0 := blk_frozen BK152.out 0; have hfz40_1 := blk_frozen BK152.out 1; obtain ⟨Ao41, co41, eo41⟩ := Kd.R_slice HO_6.out; subst eo41; have p155 : 0 ≤ (((rd_T47 t148 x36_2).f0) : Int) := of_decide_eq_true (by first | (with_reducible assumption) | assumption); have q155 : ((rd_T47 t148 x36_2).f0) < (x6_2.length : Int) := of_decide_eq_true (by first | (with_reducible assumption) | assumption); obtain ⟨ad155, e155, hx155_0⟩ := Kd.at_bool (Kd.R_reads' HO_6.out).2.2 ((rd_T47 t148 x36_2).f0) p155 q155; cases e155; have hn155_0 : ad155.block ≠ gb154 := Kd.own_blk (Kd.R_ne HO_6.out BK154.out (by decide)); have hn155_1 : ad155.block ≠ gb154 := Kd.own_blk (Kd.R_ne HO_6.out BK154.out (by decide)); have hn155_2 : ad155.block ≠ gb154 := Kd.own_blk (Kd.R_ne HO_6.out BK154.out (by decide)); have hn155_3 : ad155.block ≠ gb154 := Kd.own_blk (Kd.R_ne HO_6.out BK154.out (by decide)); replace hx155_0 := (cell_far (p := ⟨gb154, 0, none⟩) (by first | (rw [add_block]; exact hn155_0) | (show (Addr.add _ _).block ≠ _; rw [add_block]; exact hn155_0) | exact hn155_0) (.int .i64 ((rd_T23 l0_0 ((rd_T47 t148 x36_2).f0)).f0))).trans hx155_0; replace hx155_0 := (cell_far (p := ⟨gb154, 1, none⟩) (by first | (rw [add_block]; exact hn155_1) | (show (Addr.add _ _).block ≠ _; rw [add_block]; exact hn155_1) | exact hn155_1) (.int .i64 ((rd_T23 l0_0 ((rd_T47 t148 x36_2).f0)).f1))).trans hx155_0; replace hx155_0 := (cell_far (p := ⟨gb154, 2, none⟩) (by first | (rw [add_block]; exact hn155_2) | (show (Addr.add _ _).block ≠ _; rw [add_block]; exact hn155_2) | exact hn155_2) (.int .i64 ((rd_T23 l0_0 ((rd_T47 t148 x36_2).f0)).f2))).trans hx155_0; replace hx155_0 := (cell_far (p := ⟨gb154, 3, none⟩) (by first | (rw [add_block]; exact hn155_3) | (show (Addr.add _ _).block ≠ _; rw [add_block]; exact hn155_3) | exact hn155_3) (.int .i64 ((rd_T23 l0_0 ((rd_T47 t148 x36_2).f0)).f3))).trans hx155_0; clear hn155_0; clear hn155_1; clear hn155_2; clear hn155_3; replace p155 := eq_true p155; replace q155 := eq_true q155))
                  (try simp only [Act.put, List.setIfInBounds_toArray, List.set_cons_zero, List.set_cons_succ])
                  go_cut [46] (fun v46 wc => ∃ (kq : Nat) (x46_30 : Bool), v46 = .bool x46_30 ∧ Aside0 (valid_round.j2 kq a1 t136 x6_2 x7_2 t148 (t148.length : Int) x36_2 x46_30 l0_0 l0_1 ((rd_T47 t148 x36_2).f0) ((rd_T47 t148 x36_2).f1) = some r) ∧ Aside0 (kq ≤ k2) ∧ Aside0 (Kd.R Kd.bool 4 wc w.heap.size (fun _ => True) (.slice (some ad155) x6_2.length co41) x6_2) ∧ Aside0 (Kd.Q (Kd.int .i64) 3 wc w.heap.size (fun _ => True) u7 x7_2) ∧ Aside0 (Kd.R k47 47 wc w.heap.size (fun k_ => k_ ≠ gb152) (.slice (some ad151) t148.length co24) t148) ∧ Aside0 (wc.heap[gb134]? = some (.cells #[(.slice (some ad135) l0_0.length c0_0), (.slice A0_1 l0_1.length c0_1)] 29 (0, 0))) ∧ Aside0 (wc.heap[gb152]? = some (.cells #[.int .i64 ((rd_T47 t148 x36_2).f0), .int .i64 ((rd_T47 t148 x36_2).f1)] 47 (0, 0))) ∧ Aside0 (wc.heap[gb154]? = some (.cells #[.int .i64 ((rd_T23 l0_0 ((rd_T47 t148 x36_2).f0)).f0), .int .i64 ((rd_T23 l0_0 ((rd_T47 t148 x36_2).f0)).f1), .int .i64 ((rd_T23 l0_0 ((rd_T47 t148 x36_2).f0)).f2), .int .i64 ((rd_T23 l0_0 ((rd_T47 t148 x36_2).f0)).f3)] 23 (0, 0))) ∧ Aside0 (Below w.heap.size w wc))
                  case first =>
                   have H := HC31.out
                   clear HC31
                   obtain ⟨bq42, hbq42⟩ : ∃ b_ : Bool, b_ = (rdOf false x6_2 ((rd_T47 t148 x36_2).f0)) := ⟨_, rfl⟩
                   replace H : (if bq42 = true then (valid_round.j2 k2 a1 t136 x6_2 x7_2 t148 (t148.length : Int) x36_2 bq42 l0_0 l0_1 ((rd_T47 t148 x36_2).f0) ((rd_T47 t148 x36_2).f1)) else ((valid_low.f ((rd_T23 l0_0 ((rd_T47 t148 x36_2).f0)).f0) ((rd_T23 l0_0 ((rd_T47 t148 x36_2).f0)).f1) ((rd_T23 l0_0 ((rd_T47 t148 x36_2).f0)).f2) ((rd_T23 l0_0 ((rd_T47 t148 x36_2).f0)).f3)).bind fun t156 => (if t156 < t136 then (valid_round.j2 k2 a1 t136 x6_2 x7_2 t148 (t148.length : Int) x36_2 (decide (t156 < t136)) l0_0 l0_1 ((rd_T47 t148 x36_2).f0) ((rd_T47 t148 x36_2).f1)) else (if ((rd_T23 l0_0 ((rd_T47 t148 x36_2).f0)).f0) = 10 then (valid_round.j2 k2 a1 t136 x6_2 x7_2 t148 (t148.length : Int) x36_2 (((rd_T23 l0_0 ((rd_T47 t148 x36_2).f0)).f3) == t136) l0_0 l0_1 ((rd_T47 t148 x36_2).f0) ((rd_T47 t148 x36_2).f1)) else (valid_round.j2 k2 a1 t136 x6_2 x7_2 t148 (t148.length : Int) x36_2 false l0_0 l0_1 ((rd_T47 t148 x36_2).f0) ((rd_T47 t148 x36_2).f1)))))) = some r := by rw [← hbq42] at H; exact H
                   have Nbq42 := Aside0.mk hbq42
                   clear hbq42
                   (try rw [← Nbq42.out])
                   by_cases c43 : bq42 = true
                   ·subst c43
                    have H1 : (valid_round.j2 k2 a1 t136 x6_2 x7_2 t148 (t148.length : Int) x36_2 true l0_0 l0_1 ((rd_T47 t148 x36_2).f0) ((rd_T47 t148 x36_2).f1)) = some r := by rw [if_pos rfl] at H; exact H
                    clear H
                    have H := H1
                    clear H1
                    have H' := Aside0.mk H
                    clear H
                    go_wp2
                    go_meet
                    case rel => exact ⟨_, (true), (by first | rfl | (simp; done) | (simp [*]; done)), H', ⟨by have := HK1.out; have := HK2.out; first | omega | exact Nat.le_refl _⟩, ⟨by (with_reducible repeat (first | apply Kd.R_alloc | apply Kd.R_drewN | apply Kd.R_drew)); exact Kd.R_mono (Kd.R_far (p := ⟨gb154, 3, none⟩) (Kd.R_far (p := ⟨gb154, 2, none⟩) (Kd.R_far (p := ⟨gb154, 1, none⟩) (Kd.R_far (p := ⟨gb154, 0, none⟩) (Kd.R_types HO_6.out BK154.out (by decide)) (fun _ hk => hk.2) (.int .i64 ((rd_T23 l0_0 ((rd_T47 t148 x36_2).f0)).f0))) (fun _ hk => hk.2) (.int .i64 ((rd_T23 l0_0 ((rd_T47 t148 x36_2).f0)).f1))) (fun _ hk => hk.2) (.int .i64 ((rd_T23 l0_0 ((rd_T47 t148 x36_2).f0)).f2))) (fun _ hk => hk.2) (.int .i64 ((rd_T23 l0_0 ((rd_T47 t148 x36_2).f0)).f3))) (fun _ hk => trivial)⟩, ⟨by (with_reducible repeat (first | apply Kd.Q_alloc | apply Kd.Q_drewN | apply Kd.Q_drew)); exact Kd.Q_mono (Kd.Q_far (p := ⟨gb154, 3, none⟩) (Kd.Q_far (p := ⟨gb154, 2, none⟩) (Kd.Q_far (p := ⟨gb154, 1, none⟩) (Kd.Q_far (p := ⟨gb154, 0, none⟩) (Kd.Q_types HO_7.out BK154.out (by decide)) (fun _ hk => hk.2) (.int .i64 ((rd_T23 l0_0 ((rd_T47 t148 x36_2).f0)).f0))) (fun _ hk => hk.2) (.int .i64 ((rd_T23 l0_0 ((rd_T47 t148 x36_2).f0)).f1))) (fun _ hk => hk.2) (.int .i64 ((rd_T23 l0_0 ((rd_T47 t148 x36_2).f0)).f2))) (fun _ hk => hk.2) (.int .i64 ((rd_T23 l0_0 ((rd_T47 t148 x36_2).f0)).f3))) (fun _ hk => trivial)⟩, ⟨by (with_reducible repeat (first | apply Kd.R_alloc | apply Kd.R_drewN | apply Kd.R_drew)); exact Kd.R_mono (Kd.R_far (p := ⟨gb154, 3, none⟩) (Kd.R_far (p := ⟨gb154, 2, none⟩) (Kd.R_far (p := ⟨gb154, 1, none⟩) (Kd.R_far (p := ⟨gb154, 0, none⟩) (Kd.R_types HO_34.out BK154.out (by decide)) (fun _ hk => hk.2) (.int .i64 ((rd_T23 l0_0 ((rd_T47 t148 x36_2).f0)).f0))) (fun _ hk => hk.2) (.int .i64 ((rd_T23 l0_0 ((rd_T47 t148 x36_2).f0)).f1))) (fun _ hk => hk.2) (.int .i64 ((rd_T23 l0_0 ((rd_T47 t148 x36_2).f0)).f2))) (fun _ hk => hk.2) (.int .i64 ((rd_T23 l0_0 ((rd_T47 t148 x36_2).f0)).f3))) (fun _ hk => hk.1.2)⟩, ⟨by (with_reducible repeat (first | refine blk_drewN ?_ _ | refine blk_drew ?_ | refine blk_alloc ?_ _)); refine blk_far ?_ NB134_154.out _; (with_reducible repeat (first | refine blk_drewN ?_ _ | refine blk_drew ?_ | refine blk_alloc ?_ _)); refine blk_far ?_ NB134_154.out _; (with_reducible repeat (first | refine blk_drewN ?_ _ | refine blk_drew ?_ | refine blk_alloc ?_ _)); refine blk_far ?_ NB134_154.out _; (with_reducible repeat (first | refine blk_drewN ?_ _ | refine blk_drew ?_ | refine blk_alloc ?_ _)); refine blk_far ?_ NB134_154.out _; (with_reducible repeat (first | refine blk_drewN ?_ _ | refine blk_drew ?_ | refine blk_alloc ?_ _)); exact BK134.out⟩, ⟨by (with_reducible repeat (first | refine blk_drewN ?_ _ | refine blk_drew ?_ | refine blk_alloc ?_ _)); refine blk_far ?_ NB152_154.out _; (with_reducible repeat (first | refine blk_drewN ?_ _ | refine blk_drew ?_ | refine blk_alloc ?_ _)); refine blk_far ?_ NB152_154.out _; (with_reducible repeat (first | refine blk_drewN ?_ _ | refine blk_drew ?_ | refine blk_alloc ?_ _)); refine blk_far ?_ NB152_154.out _; (with_reducible repeat (first | refine blk_drewN ?_ _ | refine blk_drew ?_ | refine blk_alloc ?_ _)); refine blk_far ?_ NB152_154.out _; (with_reducible repeat (first | refine blk_drewN ?_ _ | refine blk_drew ?_ | refine blk_alloc ?_ _)); exact BK152.out⟩, ⟨by (with_reducible repeat (first | refine blk_drewN ?_ _ | refine blk_drew ?_ | refine blk_alloc ?_ _)); refine blk_put (cs := #[.int .i64 ((rd_T23 l0_0 ((rd_T47 t148 x36_2).f0)).f0), .int .i64 ((rd_T23 l0_0 ((rd_T47 t148 x36_2).f0)).f1), .int .i64 ((rd_T23 l0_0 ((rd_T47 t148 x36_2).f0)).f2), .int .i64 0]) ?_ 3 _ rfl; (with_reducible repeat (first | refine blk_drewN ?_ _ | refine blk_drew ?_ | refine blk_alloc ?_ _)); refine blk_put (cs := #[.int .i64 ((rd_T23 l0_0 ((rd_T47 t148 x36_2).f0)).f0), .int .i64 ((rd_T23 l0_0 ((rd_T47 t148 x36_2).f0)).f1), .int .i64 0, .int .i64 0]) ?_ 2 _ rfl; (with_reducible repeat (first | refine blk_drewN ?_ _ | refine blk_drew ?_ | refine blk_alloc ?_ _)); refine blk_put (cs := #[.int .i64 ((rd_T23 l0_0 ((rd_T47 t148 x36_2).f0)).f0), .int .i64 0, .int .i64 0, .int .i64 0]) ?_ 1 _ rfl; (with_reducible repeat (first | refine blk_drewN ?_ _ | refine blk_drew ?_ | refine blk_alloc ?_ _)); refine blk_put (cs := #[.int .i64 0, .int .i64 0, .int .i64 0, .int .i64 0]) ?_ 0 _ rfl; (with_reducible repeat (first | refine blk_drewN ?_ _ | refine blk_drew ?_ | refine blk_alloc ?_ _)); exact BK154.out⟩, ⟨by repeat (first | (with_reducible first | exact HB.out | apply below_alloc | apply pw_below_drewN | apply below_drew1 | refine below_set ?_ GE134.out | refine below_set ?_ GE152.out | refine below_set ?_ GE154.out) | exact HB.out)⟩⟩
                   ·replace c43 := Bool.eq_false_iff.mpr c43
                    subst c43
                    have H1 : ((valid_low.f ((rd_T23 l0_0 ((rd_T47 t148 x36_2).f0)).f0) ((rd_T23 l0_0 ((rd_T47 t148 x36_2).f0)).f1) ((rd_T23 l0_0 ((rd_T47 t148 x36_2).f0)).f2) ((rd_T23 l0_0 ((rd_T47 t148 x36_2).f0)).f3)).bind fun t156 => (if t156 < t136 then (valid_round.j2 k2 a1 t136 x6_2 x7_2 t148 (t148.length : Int) x36_2 (decide (t156 < t136)) l0_0 l0_1 ((rd_T47 t148 x36_2).f0) ((rd_T47 t148 x36_2).f1)) else (if ((rd_T23 l0_0 ((rd_T47 t148 x36_2).f0)).f0) = 10 then (valid_round.j2 k2 a1 t136 x6_2 x7_2 t148 (t148.length : Int) x36_2 (((rd_T23 l0_0 ((rd_T47 t148 x36_2).f0)).f3) == t136) l0_0 l0_1 ((rd_T47 t148 x36_2).f0) ((rd_T47 t148 x36_2).f1)) else (valid_round.j2 k2 a1 t136 x6_2 x7_2 t148 (t148.length : Int) x36_2 false l0_0 l0_1 ((rd_T47 t148 x36_2).f0) ((rd_T47 t148 x36_2).f1))))) = some r := by rw [if_neg (show ¬ (false = true) by decide)] at H; exact H
                    clear H
                    have H := H1
                    clear H1
                    replace H := Option.bind_eq_some_iff.mp H
                    obtain ⟨t156, A440, H⟩ := H
                    replace H : (if t156 < t136 then (valid_round.j2 k2 a1 t136 x6_2 x7_2 t148 (t148.length : Int) x36_2 (decide (t156 < t136)) l0_0 l0_1 ((rd_T47 t148 x36_2).f0) ((rd_T47 t148 x36_2).f1)) else (if ((rd_T23 l0_0 ((rd_T47 t148 x36_2).f0)).f0) = 10 then (valid_round.j2 k2 a1 t136 x6_2 x7_2 t148 (t148.length : Int) x36_2 (((rd_T23 l0_0 ((rd_T47 t148 x36_2).f0)).f3) == t136) l0_0 l0_1 ((rd_T47 t148 x36_2).f0) ((rd_T47 t148 x36_2).f1)) else (valid_round.j2 k2 a1 t136 x6_2 x7_2 t148 (t148.length : Int) x36_2 false l0_0 l0_1 ((rd_T47 t148 x36_2).f0) ((rd_T47 t148 x36_2).f1)))) = some r := H
                    have A44 := Aside0.mk A440
                    clear A440
                    by_cases c45 : t156 < t136
                    ·rw [if_pos c45] at H
                     have c45b0 : decide (t156 < t136) = true := decide_eq_true c45
                     clear c45
                     have H' := Aside0.mk H
                     clear H
                     have hnb46 := NB154_134.out
                     have hnc46 := NB134_154.out
                     have hnb47 := NB154_152.out
                     have hnc47 := NB152_154.out
                     have hcz48_0 : w36.cell? ⟨gb154, 0, none⟩ = some (.int .i64 0) := (blk_cell BK154.out 0).trans rfl
                     have hcz48_1 : w36.cell? ⟨gb154, 1, none⟩ = some (.int .i64 0) := (blk_cell BK154.out 1).trans rfl
                     have hcz48_2 : w36.cell? ⟨gb154, 2, none⟩ = some (.int .i64 0) := (blk_cell BK154.out 2).trans rfl
                     have hcz48_3 : w36.cell? ⟨gb154, 3, none⟩ = some (.int .i64 0) := (blk_cell BK154.out 3).trans rfl
                     have hfz48_0 := blk_frozen BK154.out 0
                     have hfz48_1 := blk_frozen BK154.out 1
                     have hfz48_2 := blk_frozen BK154.out 2
                     have hfz48_3 := blk_frozen BK154.out 3
                     go_wp2_with (first | ((with_reducible refine gate_callee (f := 78) rfl ?_); refine goesL_ (some 53) rfl rfl Try.func78 (by kernel_rfl) rfl #[.agg #[.int .i64 ((rd_T23 l0_0 ((rd_T47 t148 x36_2).f0)).f0), .int .i64 ((rd_T23 l0_0 ((rd_T47 t148 x36_2).f0)).f1), .int .i64 ((rd_T23 l0_0 ((rd_T47 t148 x36_2).f0)).f2), .int .i64 ((rd_T23 l0_0 ((rd_T47 t148 x36_2).f0)).f3)]] rfl (by (try simp only [List.map_toArray, List.map_cons, List.map_nil]); first | done | rfl | (simp only [List.length_drop, List.length_take]; rfl)) ?_; (with_reducible refine (valid_low.calls ((rd_T23 l0_0 ((rd_T47 t148 x36_2).f0)).f0) ((rd_T23 l0_0 ((rd_T47 t148 x36_2).f0)).f1) ((rd_T23 l0_0 ((rd_T47 t148 x36_2).f0)).f2) ((rd_T23 l0_0 ((rd_T47 t148 x36_2).f0)).f3) t156 _ A44.out).mono ?_); rintro e w49 ⟨rfl, hb⟩; refine ⟨_, rfl, ?_⟩; have n0_ := Aside0.mk (Kd.R_below (by (with_reducible repeat (first | apply Kd.R_alloc | apply Kd.R_drewN | apply Kd.R_drew)); exact (Kd.R_mono (Kd.R_far (p := ⟨gb154, 3, none⟩) (Kd.R_far (p := ⟨gb154, 2, none⟩) (Kd.R_far (p := ⟨gb154, 1, none⟩) (Kd.R_far (p := ⟨gb154, 0, none⟩) (Kd.R_types HO_6.out BK154.out (by decide)) (fun _ hk => hk.2) (.int .i64 ((rd_T23 l0_0 ((rd_T47 t148 x36_2).f0)).f0))) (fun _ hk => hk.2) (.int .i64 ((rd_T23 l0_0 ((rd_T47 t148 x36_2).f0)).f1))) (fun _ hk => hk.2) (.int .i64 ((rd_T23 l0_0 ((rd_T47 t148 x36_2).f0)).f2))) (fun _ hk => hk.2) (.int .i64 ((rd_T23 l0_0 ((rd_T47 t148 x36_2).f0)).f3))) (fun _ h_ => h_.1))) hb); have n1_ := Aside0.mk (Kd.Q_below (by (with_reducible repeat (first | apply Kd.Q_alloc | apply Kd.Q_drewN | apply Kd.Q_drew)); exact (Kd.Q_mono (Kd.Q_far (p := ⟨gb154, 3, none⟩) (Kd.Q_far (p := ⟨gb154, 2, none⟩) (Kd.Q_far (p := ⟨gb154, 1, none⟩) (Kd.Q_far (p := ⟨gb154, 0, none⟩) (Kd.Q_types HO_7.out BK154.out (by decide)) (fun _ hk => hk.2) (.int .i64 ((rd_T23 l0_0 ((rd_T47 t148 x36_2).f0)).f0))) (fun _ hk => hk.2) (.int .i64 ((rd_T23 l0_0 ((rd_T47 t148 x36_2).f0)).f1))) (fun _ hk => hk.2) (.int .i64 ((rd_T23 l0_0 ((rd_T47 t148 x36_2).f0)).f2))) (fun _ hk => hk.2) (.int .i64 ((rd_T23 l0_0 ((rd_T47 t148 x36_2).f0)).f3))) (fun _ h_ => h_.1))) hb); have n2_ := Aside0.mk (Kd.R_below (by (with_reducible repeat (first | apply Kd.R_alloc | apply Kd.R_drewN | apply Kd.R_drew)); exact (Kd.R_mono (Kd.R_far (p := ⟨gb154, 3, none⟩) (Kd.R_far (p := ⟨gb154, 2, none⟩) (Kd.R_far (p := ⟨gb154, 1, none⟩) (Kd.R_far (p := ⟨gb154, 0, none⟩) (Kd.R_types HO_34.out BK154.out (by decide)) (fun _ hk => hk.2) (.int .i64 ((rd_T23 l0_0 ((rd_T47 t148 x36_2).f0)).f0))) (fun _ hk => hk.2) (.int .i64 ((rd_T23 l0_0 ((rd_T47 t148 x36_2).f0)).f1))) (fun _ hk => hk.2) (.int .i64 ((rd_T23 l0_0 ((rd_T47 t148 x36_2).f0)).f2))) (fun _ hk => hk.2) (.int .i64 ((rd_T23 l0_0 ((rd_T47 t148 x36_2).f0)).f3))) (fun _ h_ => h_.1))) hb); have n3_ := Aside0.mk (blk_below (g := gb134) (o := .cells #[.slice (some ad135) l0_0.length c0_0, .slice A0_1 l0_1.length c0_1] 29 (0, 0)) (by (with_reducible repeat (first | refine blk_drewN ?_ _ | refine blk_drew ?_ | refine blk_alloc ?_ _)); refine blk_far ?_ NB134_154.out _; (with_reducible repeat (first | refine blk_drewN ?_ _ | refine blk_drew ?_ | refine blk_alloc ?_ _)); refine blk_far ?_ NB134_154.out _; (with_reducible repeat (first | refine blk_drewN ?_ _ | refine blk_drew ?_ | refine blk_alloc ?_ _)); refine blk_far ?_ NB134_154.out _; (with_reducible repeat (first | refine blk_drewN ?_ _ | refine blk_drew ?_ | refine blk_alloc ?_ _)); refine blk_far ?_ NB134_154.out _; (with_reducible repeat (first | refine blk_drewN ?_ _ | refine blk_drew ?_ | refine blk_alloc ?_ _)); exact BK134.out) hb); have n4_ := Aside0.mk (blk_below (g := gb152) (o := .cells #[.int .i64 ((rd_T47 t148 x36_2).f0), .int .i64 ((rd_T47 t148 x36_2).f1)] 47 (0, 0)) (by (with_reducible repeat (first | refine blk_drewN ?_ _ | refine blk_drew ?_ | refine blk_alloc ?_ _)); refine blk_far ?_ NB152_154.out _; (with_reducible repeat (first | refine blk_drewN ?_ _ | refine blk_drew ?_ | refine blk_alloc ?_ _)); refine blk_far ?_ NB152_154.out _; (with_reducible repeat (first | refine blk_drewN ?_ _ | refine blk_drew ?_ | refine blk_alloc ?_ _)); refine blk_far ?_ NB152_154.out _; (with_reducible repeat (first | refine blk_drewN ?_ _ | refine blk_drew ?_ | refine blk_alloc ?_ _)); refine blk_far ?_ NB152_154.out _; (with_reducible repeat (first | refine blk_drewN ?_ _ | refine blk_drew ?_ | refine blk_alloc ?_ _)); exact BK152.out) hb); have n5_ := Aside0.mk (blk_below (g := gb154) (o := .cells #[.int .i64 ((rd_T23 l0_0 ((rd_T47 t148 x36_2).f0)).f0), .int .i64 ((rd_T23 l0_0 ((rd_T47 t148 x36_2).f0)).f1), .int .i64 ((rd_T23 l0_0 ((rd_T47 t148 x36_2).f0)).f2), .int .i64 ((rd_T23 l0_0 ((rd_T47 t148 x36_2).f0)).f3)] 23 (0, 0)) (by (with_reducible repeat (first | refine blk_drewN ?_ _ | refine blk_drew ?_ | refine blk_alloc ?_ _)); refine blk_put (cs := #[.int .i64 ((rd_T23 l0_0 ((rd_T47 t148 x36_2).f0)).f0), .int .i64 ((rd_T23 l0_0 ((rd_T47 t148 x36_2).f0)).f1), .int .i64 ((rd_T23 l0_0 ((rd_T47 t148 x36_2).f0)).f2), .int .i64 0]) ?_ 3 _ rfl; (with_reducible repeat (first | refine blk_drewN ?_ _ | refine blk_drew ?_ | refine blk_alloc ?_ _)); refine blk_put (cs := #[.int .i64 ((rd_T23 l0_0 ((rd_T47 t148 x36_2).f0)).f0), .int .i64 ((rd_T23 l0_0 ((rd_T47 t148 x36_2).f0)).f1), .int .i64 0, .int .i64 0]) ?_ 2 _ rfl; (with_reducible repeat (first | refine blk_drewN ?_ _ | refine blk_drew ?_ | refine blk_alloc ?_ _)); refine blk_put (cs := #[.int .i64 ((rd_T23 l0_0 ((rd_T47 t148 x36_2).f0)).f0), .int .i64 0, .int .i64 0, .int .i64 0]) ?_ 1 _ rfl; (with_reducible repeat (first | refine blk_drewN ?_ _ | refine blk_drew ?_ | refine blk_alloc ?_ _)); refine blk_put (cs := #[.int .i64 0, .int .i64 0, .int .i64 0, .int .i64 0]) ?_ 0 _ rfl; (with_reducible repeat (first | refine blk_drewN ?_ _ | refine blk_drew ?_ | refine blk_alloc ?_ _)); exact BK154.out) hb); have n6_ := Aside0.mk (below_step (by repeat (first | (with_reducible first | exact HB.out | apply below_alloc | apply pw_below_drewN | apply below_drew1 | refine below_set ?_ GE134.out | refine below_set ?_ GE152.out | refine below_set ?_ GE154.out) | exact HB.out)) hb); clear HO_6; clear HO_7; clear HO_34; clear BK134; clear BK152; clear BK154; clear HB; have HO_6 := n0_; have HO_7 := n1_; have HO_34 := n2_; have BK134 := n3_; have BK152 := n4_; have BK154 := n5_; have HB := n6_; clear n0_ n1_ n2_ n3_ n4_ n5_ n6_; (try clear hb); (try clear hb2); (try clear hk); (try clear hi)))
                     go_meet
                     case rel => exact ⟨_, (decide (t156 < t136)), (by first | rfl | (simp; done) | (simp [*]; done)), H', ⟨by have := HK1.out; have := HK2.out; first | omega | exact Nat.le_refl _⟩, ⟨by (with_reducible repeat (first | apply Kd.R_alloc | apply Kd.R_drewN | apply Kd.R_drew)); exact HO_6.out⟩, ⟨by (with_reducible repeat (first | apply Kd.Q_alloc | apply Kd.Q_drewN | apply Kd.Q_drew)); exact HO_7.out⟩, ⟨by (with_reducible repeat (first | apply Kd.R_alloc | apply Kd.R_drewN | apply Kd.R_drew)); exact Kd.R_mono HO_34.out (fun _ hk => hk.2)⟩, ⟨by (with_reducible repeat (first | refine blk_drewN ?_ _ | refine blk_drew ?_ | refine blk_alloc ?_ _)); exact BK134.out⟩, ⟨by (with_reducible repeat (first | refine blk_drewN ?_ _ | refine blk_drew ?_ | refine blk_alloc ?_ _)); exact BK152.out⟩, ⟨by (with_reducible repeat (first | refine blk_drewN ?_ _ | refine blk_drew ?_ | refine blk_alloc ?_ _)); exact BK154.out⟩, ⟨by repeat (first | (with_reducible first | exact HB.out | apply below_alloc | apply pw_below_drewN | apply below_drew1 | refine below_set ?_ GE134.out | refine below_set ?_ GE152.out | refine below_set ?_ GE154.out) | exact HB.out)⟩⟩
                    ·rw [if_neg c45] at H
                     have c45b0 : decide (t156 < t136) = false := decide_eq_false c45
                     clear c45
                     by_cases c50 : ((rd_T23 l0_0 ((rd_T47 t148 x36_2).f0)).f0) = 10
                     ·rw [if_pos c50] at H
                      have c50b0 : (((rd_T23 l0_0 ((rd_T47 t148 x36_2).f0)).f0) == 10) = true := beq_iff_eq.mpr c50
                      have c50b1 : (((rd_T23 l0_0 ((rd_T47 t148 x36_2).f0)).f0) != 10) = false := bne_eq_false_iff_eq.mpr c50
                      clear c50
                      have H' := Aside0.mk H
                      clear H
                      have hnb51 := NB154_134.out
                      have hnc51 := NB134_154.out
                      have hnb52 := NB154_152.out
                      have hnc52 := NB152_154.out
                      have hcz53_0 : w36.cell? ⟨gb154, 0, none⟩ = some (.int .i64 0) := (blk_cell BK154.out 0).trans rfl
                      have hcz53_1 : w36.cell? ⟨gb154, 1, none⟩ = some (.int .i64 0) := (blk_cell BK154.out 1).trans rfl
                      have hcz53_2 : w36.cell? ⟨gb154, 2, none⟩ = some (.int .i64 0) := (blk_cell BK154.out 2).trans rfl
                      have hcz53_3 : w36.cell? ⟨gb154, 3, none⟩ = some (.int .i64 0) := (blk_cell BK154.out 3).trans rfl
                      have hfz53_0 := blk_frozen BK154.out 0
                      have hfz53_1 := blk_frozen BK154.out 1
                      have hfz53_2 := blk_frozen BK154.out 2
                      have hfz53_3 := blk_frozen BK154.out 3
                      go_wp2_with (first | ((with_reducible refine gate_callee (f := 78) rfl ?_); refine goesL_ (some 53) rfl rfl Try.func78 (by kernel_rfl) rfl #[.agg #[.int .i64 ((rd_T23 l0_0 ((rd_T47 t148 x36_2).f0)).f0), .int .i64 ((rd_T23 l0_0 ((rd_T47 t148 x36_2).f0)).f1), .int .i64 ((rd_T23 l0_0 ((rd_T47 t148 x36_2).f0)).f2), .int .i64 ((rd_T23 l0_0 ((rd_T47 t148 x36_2).f0)).f3)]] rfl (by (try simp only [List.map_toArray, List.map_cons, List.map_nil]); first | done | rfl | (simp only [List.length_drop, List.length_take]; rfl)) ?_; (with_reducible refine (valid_low.calls ((rd_T23 l0_0 ((rd_T47 t148 x36_2).f0)).f0) ((rd_T23 l0_0 ((rd_T47 t148 x36_2).f0)).f1) ((rd_T23 l0_0 ((rd_T47 t148 x36_2).f0)).f2) ((rd_T23 l0_0 ((rd_T47 t148 x36_2).f0)).f3) t156 _ A44.out).mono ?_); rintro e w54 ⟨rfl, hb⟩; refine ⟨_, rfl, ?_⟩; have n0_ := Aside0.mk (Kd.R_below (by (with_reducible repeat (first | apply Kd.R_alloc | apply Kd.R_drewN | apply Kd.R_drew)); exact (Kd.R_mono (Kd.R_far (p := ⟨gb154, 3, none⟩) (Kd.R_far (p := ⟨gb154, 2, none⟩) (Kd.R_far (p := ⟨gb154, 1, none⟩) (Kd.R_far (p := ⟨gb154, 0, none⟩) (Kd.R_types HO_6.out BK154.out (by decide)) (fun _ hk => hk.2) (.int .i64 ((rd_T23 l0_0 ((rd_T47 t148 x36_2).f0)).f0))) (fun _ hk => hk.2) (.int .i64 ((rd_T23 l0_0 ((rd_T47 t148 x36_2).f0)).f1))) (fun _ hk => hk.2) (.int .i64 ((rd_T23 l0_0 ((rd_T47 t148 x36_2).f0)).f2))) (fun _ hk => hk.2) (.int .i64 ((rd_T23 l0_0 ((rd_T47 t148 x36_2).f0)).f3))) (fun _ h_ => h_.1))) hb); have n1_ := Aside0.mk (Kd.Q_below (by (with_reducible repeat (first | apply Kd.Q_alloc | apply Kd.Q_drewN | apply Kd.Q_drew)); exact (Kd.Q_mono (Kd.Q_far (p := ⟨gb154, 3, none⟩) (Kd.Q_far (p := ⟨gb154, 2, none⟩) (Kd.Q_far (p := ⟨gb154, 1, none⟩) (Kd.Q_far (p := ⟨gb154, 0, none⟩) (Kd.Q_types HO_7.out BK154.out (by decide)) (fun _ hk => hk.2) (.int .i64 ((rd_T23 l0_0 ((rd_T47 t148 x36_2).f0)).f0))) (fun _ hk => hk.2) (.int .i64 ((rd_T23 l0_0 ((rd_T47 t148 x36_2).f0)).f1))) (fun _ hk => hk.2) (.int .i64 ((rd_T23 l0_0 ((rd_T47 t148 x36_2).f0)).f2))) (fun _ hk => hk.2) (.int .i64 ((rd_T23 l0_0 ((rd_T47 t148 x36_2).f0)).f3))) (fun _ h_ => h_.1))) hb); have n2_ := Aside0.mk (Kd.R_below (by (with_reducible repeat (first | apply Kd.R_alloc | apply Kd.R_drewN | apply Kd.R_drew)); exact (Kd.R_mono (Kd.R_far (p := ⟨gb154, 3, none⟩) (Kd.R_far (p := ⟨gb154, 2, none⟩) (Kd.R_far (p := ⟨gb154, 1, none⟩) (Kd.R_far (p := ⟨gb154, 0, none⟩) (Kd.R_types HO_34.out BK154.out (by decide)) (fun _ hk => hk.2) (.int .i64 ((rd_T23 l0_0 ((rd_T47 t148 x36_2).f0)).f0))) (fun _ hk => hk.2) (.int .i64 ((rd_T23 l0_0 ((rd_T47 t148 x36_2).f0)).f1))) (fun _ hk => hk.2) (.int .i64 ((rd_T23 l0_0 ((rd_T47 t148 x36_2).f0)).f2))) (fun _ hk => hk.2) (.int .i64 ((rd_T23 l0_0 ((rd_T47 t148 x36_2).f0)).f3))) (fun _ h_ => h_.1))) hb); have n3_ := Aside0.mk (blk_below (g := gb134) (o := .cells #[.slice (some ad135) l0_0.length c0_0, .slice A0_1 l0_1.length c0_1] 29 (0, 0)) (by (with_reducible repeat (first | refine blk_drewN ?_ _ | refine blk_drew ?_ | refine blk_alloc ?_ _)); refine blk_far ?_ NB134_154.out _; (with_reducible repeat (first | refine blk_drewN ?_ _ | refine blk_drew ?_ | refine blk_alloc ?_ _)); refine blk_far ?_ NB134_154.out _; (with_reducible repeat (first | refine blk_drewN ?_ _ | refine blk_drew ?_ | refine blk_alloc ?_ _)); refine blk_far ?_ NB134_154.out _; (with_reducible repeat (first | refine blk_drewN ?_ _ | refine blk_drew ?_ | refine blk_alloc ?_ _)); refine blk_far ?_ NB134_154.out _; (with_reducible repeat (first | refine blk_drewN ?_ _ | refine blk_drew ?_ | refine blk_alloc ?_ _)); exact BK134.out) hb); have n4_ := Aside0.mk (blk_below (g := gb152) (o := .cells #[.int .i64 ((rd_T47 t148 x36_2).f0), .int .i64 ((rd_T47 t148 x36_2).f1)] 47 (0, 0)) (by (with_reducible repeat (first | refine blk_drewN ?_ _ | refine blk_drew ?_ | refine blk_alloc ?_ _)); refine blk_far ?_ NB152_154.out _; (with_reducible repeat (first | refine blk_drewN ?_ _ | refine blk_drew ?_ | refine blk_alloc ?_ _)); refine blk_far ?_ NB152_154.out _; (with_reducible repeat (first | refine blk_drewN ?_ _ | refine blk_drew ?_ | refine blk_alloc ?_ _)); refine blk_far ?_ NB152_154.out _; (with_reducible repeat (first | refine blk_drewN ?_ _ | refine blk_drew ?_ | refine blk_alloc ?_ _)); refine blk_far ?_ NB152_154.out _; (with_reducible repeat (first | refine blk_drewN ?_ _ | refine blk_drew ?_ | refine blk_alloc ?_ _)); exact BK152.out) hb); have n5_ := Aside0.mk (blk_below (g := gb154) (o := .cells #[.int .i64 ((rd_T23 l0_0 ((rd_T47 t148 x36_2).f0)).f0), .int .i64 ((rd_T23 l0_0 ((rd_T47 t148 x36_2).f0)).f1), .int .i64 ((rd_T23 l0_0 ((rd_T47 t148 x36_2).f0)).f2), .int .i64 ((rd_T23 l0_0 ((rd_T47 t148 x36_2).f0)).f3)] 23 (0, 0)) (by (with_reducible repeat (first | refine blk_drewN ?_ _ | refine blk_drew ?_ | refine blk_alloc ?_ _)); refine blk_put (cs := #[.int .i64 ((rd_T23 l0_0 ((rd_T47 t148 x36_2).f0)).f0), .int .i64 ((rd_T23 l0_0 ((rd_T47 t148 x36_2).f0)).f1), .int .i64 ((rd_T23 l0_0 ((rd_T47 t148 x36_2).f0)).f2), .int .i64 0]) ?_ 3 _ rfl; (with_reducible repeat (first | refine blk_drewN ?_ _ | refine blk_drew ?_ | refine blk_alloc ?_ _)); refine blk_put (cs := #[.int .i64 ((rd_T23 l0_0 ((rd_T47 t148 x36_2).f0)).f0), .int .i64 ((rd_T23 l0_0 ((rd_T47 t148 x36_2).f0)).f1), .int .i64 0, .int .i64 0]) ?_ 2 _ rfl; (with_reducible repeat (first | refine blk_drewN ?_ _ | refine blk_drew ?_ | refine blk_alloc ?_ _)); refine blk_put (cs := #[.int .i64 ((rd_T23 l0_0 ((rd_T47 t148 x36_2).f0)).f0), .int .i64 0, .int .i64 0, .int .i64 0]) ?_ 1 _ rfl; (with_reducible repeat (first | refine blk_drewN ?_ _ | refine blk_drew ?_ | refine blk_alloc ?_ _)); refine blk_put (cs := #[.int .i64 0, .int .i64 0, .int .i64 0, .int .i64 0]) ?_ 0 _ rfl; (with_reducible repeat (first | refine blk_drewN ?_ _ | refine blk_drew ?_ | refine blk_alloc ?_ _)); exact BK154.out) hb); have n6_ := Aside0.mk (below_step (by repeat (first | (with_reducible first | exact HB.out | apply below_alloc | apply pw_below_drewN | apply below_drew1 | refine below_set ?_ GE134.out | refine below_set ?_ GE152.out | refine below_set ?_ GE154.out) | exact HB.out)) hb); clear HO_6; clear HO_7; clear HO_34; clear BK134; clear BK152; clear BK154; clear HB; have HO_6 := n0_; have HO_7 := n1_; have HO_34 := n2_; have BK134 := n3_; have BK152 := n4_; have BK154 := n5_; have HB := n6_; clear n0_ n1_ n2_ n3_ n4_ n5_ n6_; (try clear hb); (try clear hb2); (try clear hk); (try clear hi); have hcz55_0 : w54.cell? ⟨gb154, 0, none⟩ = some (.int .i64 ((rd_T23 l0_0 ((rd_T47 t148 x36_2).f0)).f0)) := (blk_cell BK154.out 0).trans rfl; have hcz55_1 : w54.cell? ⟨gb154, 1, none⟩ = some (.int .i64 ((rd_T23 l0_0 ((rd_T47 t148 x36_2).f0)).f1)) := (blk_cell BK154.out 1).trans rfl; have hcz55_2 : w54.cell? ⟨gb154, 2, none⟩ = some (.int .i64 ((rd_T23 l0_0 ((rd_T47 t148 x36_2).f0)).f2)) := (blk_cell BK154.out 2).trans rfl; have hcz55_3 : w54.cell? ⟨gb154, 3, none⟩ = some (.int .i64 ((rd_T23 l0_0 ((rd_T47 t148 x36_2).f0)).f3)) := (blk_cell BK154.out 3).trans rfl; have hfz55_0 := blk_frozen BK154.out 0; have hfz55_1 := blk_frozen BK154.out 1; have hfz55_2 := blk_frozen BK154.out 2; have hfz55_3 := blk_frozen BK154.out 3))
                      go_meet
                      case rel => exact ⟨_, ((((rd_T23 l0_0 ((rd_T47 t148 x36_2).f0)).f3) == t136)), (by first | rfl | (simp; done) | (simp [*]; done)), H', ⟨by have := HK1.out; have := HK2.out; first | omega | exact Nat.le_refl _⟩, ⟨by (with_reducible repeat (first | apply Kd.R_alloc | apply Kd.R_drewN | apply Kd.R_drew)); exact HO_6.out⟩, ⟨by (with_reducible repeat (first | apply Kd.Q_alloc | apply Kd.Q_drewN | apply Kd.Q_drew)); exact HO_7.out⟩, ⟨by (with_reducible repeat (first | apply Kd.R_alloc | apply Kd.R_drewN | apply Kd.R_drew)); exact Kd.R_mono HO_34.out (fun _ hk => hk.2)⟩, ⟨by (with_reducible repeat (first | refine blk_drewN ?_ _ | refine blk_drew ?_ | refine blk_alloc ?_ _)); exact BK134.out⟩, ⟨by (with_reducible repeat (first | refine blk_drewN ?_ _ | refine blk_drew ?_ | refine blk_alloc ?_ _)); exact BK152.out⟩, ⟨by (with_reducible repeat (first | refine blk_drewN ?_ _ | refine blk_drew ?_ | refine blk_alloc ?_ _)); exact BK154.out⟩, ⟨by repeat (first | (with_reducible first | exact HB.out | apply below_alloc | apply pw_below_drewN | apply below_drew1 | refine below_set ?_ GE134.out | refine below_set ?_ GE152.out | refine below_set ?_ GE154.out) | exact HB.out)⟩⟩
                     ·rw [if_neg c50] at H
                      have c50b0 : (((rd_T23 l0_0 ((rd_T47 t148 x36_2).f0)).f0) == 10) = false := beq_eq_false_iff_ne.mpr c50
                      have c50b1 : (((rd_T23 l0_0 ((rd_T47 t148 x36_2).f0)).f0) != 10) = true := bne_iff_ne.mpr c50
                      have H' := Aside0.mk H
                      clear H
                      have hnb56 := NB154_134.out
                      have hnc56 := NB134_154.out
                      have hnb57 := NB154_152.out
                      have hnc57 := NB152_154.out
                      have hcz58_0 : w36.cell? ⟨gb154, 0, none⟩ = some (.int .i64 0) := (blk_cell BK154.out 0).trans rfl
                      have hcz58_1 : w36.cell? ⟨gb154, 1, none⟩ = some (.int .i64 0) := (blk_cell BK154.out 1).trans rfl
                      have hcz58_2 : w36.cell? ⟨gb154, 2, none⟩ = some (.int .i64 0) := (blk_cell BK154.out 2).trans rfl
                      have hcz58_3 : w36.cell? ⟨gb154, 3, none⟩ = some (.int .i64 0) := (blk_cell BK154.out 3).trans rfl
                      have hfz58_0 := blk_frozen BK154.out 0
                      have hfz58_1 := blk_frozen BK154.out 1
                      have hfz58_2 := blk_frozen BK154.out 2
                      have hfz58_3 := blk_frozen BK154.out 3
                      go_wp2_with (first | ((with_reducible refine gate_callee (f := 78) rfl ?_); refine goesL_ (some 53) rfl rfl Try.func78 (by kernel_rfl) rfl #[.agg #[.int .i64 ((rd_T23 l0_0 ((rd_T47 t148 x36_2).f0)).f0), .int .i64 ((rd_T23 l0_0 ((rd_T47 t148 x36_2).f0)).f1), .int .i64 ((rd_T23 l0_0 ((rd_T47 t148 x36_2).f0)).f2), .int .i64 ((rd_T23 l0_0 ((rd_T47 t148 x36_2).f0)).f3)]] rfl (by (try simp only [List.map_toArray, List.map_cons, List.map_nil]); first | done | rfl | (simp only [List.length_drop, List.length_take]; rfl)) ?_; (with_reducible refine (valid_low.calls ((rd_T23 l0_0 ((rd_T47 t148 x36_2).f0)).f0) ((rd_T23 l0_0 ((rd_T47 t148 x36_2).f0)).f1) ((rd_T23 l0_0 ((rd_T47 t148 x36_2).f0)).f2) ((rd_T23 l0_0 ((rd_T47 t148 x36_2).f0)).f3) t156 _ A44.out).mono ?_); rintro e w59 ⟨rfl, hb⟩; refine ⟨_, rfl, ?_⟩; have n0_ := Aside0.mk (Kd.R_below (by (with_reducible repeat (first | apply Kd.R_alloc | apply Kd.R_drewN | apply Kd.R_drew)); exact (Kd.R_mono (Kd.R_far (p := ⟨gb154, 3, none⟩) (Kd.R_far (p := ⟨gb154, 2, none⟩) (Kd.R_far (p := ⟨gb154, 1, none⟩) (Kd.R_far (p := ⟨gb154, 0, none⟩) (Kd.R_types HO_6.out BK154.out (by decide)) (fun _ hk => hk.2) (.int .i64 ((rd_T23 l0_0 ((rd_T47 t148 x36_2).f0)).f0))) (fun _ hk => hk.2) (.int .i64 ((rd_T23 l0_0 ((rd_T47 t148 x36_2).f0)).f1))) (fun _ hk => hk.2) (.int .i64 ((rd_T23 l0_0 ((rd_T47 t148 x36_2).f0)).f2))) (fun _ hk => hk.2) (.int .i64 ((rd_T23 l0_0 ((rd_T47 t148 x36_2).f0)).f3))) (fun _ h_ => h_.1))) hb); have n1_ := Aside0.mk (Kd.Q_below (by (with_reducible repeat (first | apply Kd.Q_alloc | apply Kd.Q_drewN | apply Kd.Q_drew)); exact (Kd.Q_mono (Kd.Q_far (p := ⟨gb154, 3, none⟩) (Kd.Q_far (p := ⟨gb154, 2, none⟩) (Kd.Q_far (p := ⟨gb154, 1, none⟩) (Kd.Q_far (p := ⟨gb154, 0, none⟩) (Kd.Q_types HO_7.out BK154.out (by decide)) (fun _ hk => hk.2) (.int .i64 ((rd_T23 l0_0 ((rd_T47 t148 x36_2).f0)).f0))) (fun _ hk => hk.2) (.int .i64 ((rd_T23 l0_0 ((rd_T47 t148 x36_2).f0)).f1))) (fun _ hk => hk.2) (.int .i64 ((rd_T23 l0_0 ((rd_T47 t148 x36_2).f0)).f2))) (fun _ hk => hk.2) (.int .i64 ((rd_T23 l0_0 ((rd_T47 t148 x36_2).f0)).f3))) (fun _ h_ => h_.1))) hb); have n2_ := Aside0.mk (Kd.R_below (by (with_reducible repeat (first | apply Kd.R_alloc | apply Kd.R_drewN | apply Kd.R_drew)); exact (Kd.R_mono (Kd.R_far (p := ⟨gb154, 3, none⟩) (Kd.R_far (p := ⟨gb154, 2, none⟩) (Kd.R_far (p := ⟨gb154, 1, none⟩) (Kd.R_far (p := ⟨gb154, 0, none⟩) (Kd.R_types HO_34.out BK154.out (by decide)) (fun _ hk => hk.2) (.int .i64 ((rd_T23 l0_0 ((rd_T47 t148 x36_2).f0)).f0))) (fun _ hk => hk.2) (.int .i64 ((rd_T23 l0_0 ((rd_T47 t148 x36_2).f0)).f1))) (fun _ hk => hk.2) (.int .i64 ((rd_T23 l0_0 ((rd_T47 t148 x36_2).f0)).f2))) (fun _ hk => hk.2) (.int .i64 ((rd_T23 l0_0 ((rd_T47 t148 x36_2).f0)).f3))) (fun _ h_ => h_.1))) hb); have n3_ := Aside0.mk (blk_below (g := gb134) (o := .cells #[.slice (some ad135) l0_0.length c0_0, .slice A0_1 l0_1.length c0_1] 29 (0, 0)) (by (with_reducible repeat (first | refine blk_drewN ?_ _ | refine blk_drew ?_ | refine blk_alloc ?_ _)); refine blk_far ?_ NB134_154.out _; (with_reducible repeat (first | refine blk_drewN ?_ _ | refine blk_drew ?_ | refine blk_alloc ?_ _)); refine blk_far ?_ NB134_154.out _; (with_reducible repeat (first | refine blk_drewN ?_ _ | refine blk_drew ?_ | refine blk_alloc ?_ _)); refine blk_far ?_ NB134_154.out _; (with_reducible repeat (first | refine blk_drewN ?_ _ | refine blk_drew ?_ | refine blk_alloc ?_ _)); refine blk_far ?_ NB134_154.out _; (with_reducible repeat (first | refine blk_drewN ?_ _ | refine blk_drew ?_ | refine blk_alloc ?_ _)); exact BK134.out) hb); have n4_ := Aside0.mk (blk_below (g := gb152) (o := .cells #[.int .i64 ((rd_T47 t148 x36_2).f0), .int .i64 ((rd_T47 t148 x36_2).f1)] 47 (0, 0)) (by (with_reducible repeat (first | refine blk_drewN ?_ _ | refine blk_drew ?_ | refine blk_alloc ?_ _)); refine blk_far ?_ NB152_154.out _; (with_reducible repeat (first | refine blk_drewN ?_ _ | refine blk_drew ?_ | refine blk_alloc ?_ _)); refine blk_far ?_ NB152_154.out _; (with_reducible repeat (first | refine blk_drewN ?_ _ | refine blk_drew ?_ | refine blk_alloc ?_ _)); refine blk_far ?_ NB152_154.out _; (with_reducible repeat (first | refine blk_drewN ?_ _ | refine blk_drew ?_ | refine blk_alloc ?_ _)); refine blk_far ?_ NB152_154.out _; (with_reducible repeat (first | refine blk_drewN ?_ _ | refine blk_drew ?_ | refine blk_alloc ?_ _)); exact BK152.out) hb); have n5_ := Aside0.mk (blk_below (g := gb154) (o := .cells #[.int .i64 ((rd_T23 l0_0 ((rd_T47 t148 x36_2).f0)).f0), .int .i64 ((rd_T23 l0_0 ((rd_T47 t148 x36_2).f0)).f1), .int .i64 ((rd_T23 l0_0 ((rd_T47 t148 x36_2).f0)).f2), .int .i64 ((rd_T23 l0_0 ((rd_T47 t148 x36_2).f0)).f3)] 23 (0, 0)) (by (with_reducible repeat (first | refine blk_drewN ?_ _ | refine blk_drew ?_ | refine blk_alloc ?_ _)); refine blk_put (cs := #[.int .i64 ((rd_T23 l0_0 ((rd_T47 t148 x36_2).f0)).f0), .int .i64 ((rd_T23 l0_0 ((rd_T47 t148 x36_2).f0)).f1), .int .i64 ((rd_T23 l0_0 ((rd_T47 t148 x36_2).f0)).f2), .int .i64 0]) ?_ 3 _ rfl; (with_reducible repeat (first | refine blk_drewN ?_ _ | refine blk_drew ?_ | refine blk_alloc ?_ _)); refine blk_put (cs := #[.int .i64 ((rd_T23 l0_0 ((rd_T47 t148 x36_2).f0)).f0), .int .i64 ((rd_T23 l0_0 ((rd_T47 t148 x36_2).f0)).f1), .int .i64 0, .int .i64 0]) ?_ 2 _ rfl; (with_reducible repeat (first | refine blk_drewN ?_ _ | refine blk_drew ?_ | refine blk_alloc ?_ _)); refine blk_put (cs := #[.int .i64 ((rd_T23 l0_0 ((rd_T47 t148 x36_2).f0)).f0), .int .i64 0, .int .i64 0, .int .i64 0]) ?_ 1 _ rfl; (with_reducible repeat (first | refine blk_drewN ?_ _ | refine blk_drew ?_ | refine blk_alloc ?_ _)); refine blk_put (cs := #[.int .i64 0, .int .i64 0, .int .i64 0, .int .i64 0]) ?_ 0 _ rfl; (with_reducible repeat (first | refine blk_drewN ?_ _ | refine blk_drew ?_ | refine blk_alloc ?_ _)); exact BK154.out) hb); have n6_ := Aside0.mk (below_step (by repeat (first | (with_reducible first | exact HB.out | apply below_alloc | apply pw_below_drewN | apply below_drew1 | refine below_set ?_ GE134.out | refine below_set ?_ GE152.out | refine below_set ?_ GE154.out) | exact HB.out)) hb); clear HO_6; clear HO_7; clear HO_34; clear BK134; clear BK152; clear BK154; clear HB; have HO_6 := n0_; have HO_7 := n1_; have HO_34 := n2_; have BK134 := n3_; have BK152 := n4_; have BK154 := n5_; have HB := n6_; clear n0_ n1_ n2_ n3_ n4_ n5_ n6_; (try clear hb); (try clear hb2); (try clear hk); (try clear hi); have hcz60_0 : w59.cell? ⟨gb154, 0, none⟩ = some (.int .i64 ((rd_T23 l0_0 ((rd_T47 t148 x36_2).f0)).f0)) := (blk_cell BK154.out 0).trans rfl; have hcz60_1 : w59.cell? ⟨gb154, 1, none⟩ = some (.int .i64 ((rd_T23 l0_0 ((rd_T47 t148 x36_2).f0)).f1)) := (blk_cell BK154.out 1).trans rfl; have hcz60_2 : w59.cell? ⟨gb154, 2, none⟩ = some (.int .i64 ((rd_T23 l0_0 ((rd_T47 t148 x36_2).f0)).f2)) := (blk_cell BK154.out 2).trans rfl; have hcz60_3 : w59.cell? ⟨gb154, 3, none⟩ = some (.int .i64 ((rd_T23 l0_0 ((rd_T47 t148 x36_2).f0)).f3)) := (blk_cell BK154.out 3).trans rfl; have hfz60_0 := blk_frozen BK154.out 0; have hfz60_1 := blk_frozen BK154.out 1; have hfz60_2 := blk_frozen BK154.out 2; have hfz60_3 := blk_frozen BK154.out 3))
                      go_meet
                      case rel => exact ⟨_, (false), (by first | rfl | (simp; done) | (simp [*]; done)), H', ⟨by have := HK1.out; have := HK2.out; first | omega | exact Nat.le_refl _⟩, ⟨by (with_reducible repeat (first | apply Kd.R_alloc | apply Kd.R_drewN | apply Kd.R_drew)); exact HO_6.out⟩, ⟨by (with_reducible repeat (first | apply Kd.Q_alloc | apply Kd.Q_drewN | apply Kd.Q_drew)); exact HO_7.out⟩, ⟨by (with_reducible repeat (first | apply Kd.R_alloc | apply Kd.R_drewN | apply Kd.R_drew)); exact Kd.R_mono HO_34.out (fun _ hk => hk.2)⟩, ⟨by (with_reducible repeat (first | refine blk_drewN ?_ _ | refine blk_drew ?_ | refine blk_alloc ?_ _)); exact BK134.out⟩, ⟨by (with_reducible repeat (first | refine blk_drewN ?_ _ | refine blk_drew ?_ | refine blk_alloc ?_ _)); exact BK152.out⟩, ⟨by (with_reducible repeat (first | refine blk_drewN ?_ _ | refine blk_drew ?_ | refine blk_alloc ?_ _)); exact BK154.out⟩, ⟨by repeat (first | (with_reducible first | exact HB.out | apply below_alloc | apply pw_below_drewN | apply below_drew1 | refine below_set ?_ GE134.out | refine below_set ?_ GE152.out | refine below_set ?_ GE154.out) | exact HB.out)⟩⟩
                  case rest =>
                   clear HC31
                   try clear c1
                   try clear p1
                   try clear q1
                   try clear hx1
                   try clear qi1
                   try clear c2
                   try clear p2
                   try clear q2
                   try clear c3
                   try clear c3b0
                   try clear c4
                   try clear c4b0
                   try clear q4
                   try clear c5
                   try clear c6
                   try clear c6b0
                   try clear c6b1
                   try clear c7
                   try clear c7b0
                   try clear c7b1
                   try clear p13
                   try clear q13
                   try clear hx13
                   try clear p14
                   try clear q14
                   try clear hx14
                   try clear qi14
                   try clear p15
                   try clear q15
                   try clear hx15
                   try clear c16
                   try clear c16b0
                   try clear c16b1
                   try clear c17
                   try clear c17b0
                   try clear c17b1
                   try clear c18
                   try clear c18b0
                   try clear c18b1
                   try clear c21
                   try clear q21
                   try clear c25
                   try clear c25b0
                   try clear c26
                   try clear c26b0
                   try clear c27
                   try clear c27b0
                   try clear c28
                   try clear c28b0
                   try clear c29
                   try clear c29b0
                   try clear c30
                   try clear c30b0
                   try clear c33
                   try clear c37
                   try clear c38
                   try clear q42
                   try clear c43
                   try clear c45
                   try clear c45b0
                   try clear c46
                   try clear c47
                   try clear c50
                   try clear c50b0
                   try clear c50b1
                   try clear c51
                   try clear c52
                   try clear c56
                   try clear c57
                   try clear c60
                   try clear hcz11_0
                   try clear hcz11_1
                   try clear hcz22_0
                   try clear hcz22_1
                   try clear hcz34_0
                   try clear hcz34_1
                   try clear hcz35_0
                   try clear hcz35_1
                   try clear hcz39_0
                   try clear hcz39_1
                   try clear hcz39_2
                   try clear hcz39_3
                   try clear hcz40_0
                   try clear hcz40_1
                   try clear hcz48_0
                   try clear hcz48_1
                   try clear hcz48_2
                   try clear hcz48_3
                   try clear hcz53_0
                   try clear hcz53_1
                   try clear hcz53_2
                   try clear hcz53_3
                   try clear hcz55_0
                   try clear hcz55_1
                   try clear hcz55_2
                   try clear hcz55_3
                   try clear hcz58_0
                   try clear hcz58_1
                   try clear hcz58_2
                   try clear hcz58_3
                   try clear hcz60_0
                   try clear hcz60_1
                   try clear hcz60_2
                   try clear hcz60_3
                   try clear hcz9_0
                   try clear hcz9_1
                   try clear hfz11_0
                   try clear hfz11_1
                   try clear hfz22_0
                   try clear hfz22_1
                   try clear hfz34_0
                   try clear hfz34_1
                   try clear hfz35_0
                   try clear hfz35_1
                   try clear hfz39_0
                   try clear hfz39_1
                   try clear hfz39_2
                   try clear hfz39_3
                   try clear hfz40_0
                   try clear hfz40_1
                   try clear hfz48_0
                   try clear hfz48_1
                   try clear hfz48_2
                   try clear hfz48_3
                   try clear hfz53_0
                   try clear hfz53_1
                   try clear hfz53_2
                   try clear hfz53_3
                   try clear hfz55_0
                   try clear hfz55_1
                   try clear hfz55_2
                   try clear hfz55_3
                   try clear hfz58_0
                   try clear hfz58_1
                   try clear hfz58_2
                   try clear hfz58_3
                   try clear hfz60_0
                   try clear hfz60_1
                   try clear hfz60_2
                   try clear hfz60_3
                   try clear hfz9_0
                   try clear hfz9_1
                   try clear hx135_0
                   try clear hx135_1
                   try clear hx135_2
                   try clear hx135_3
                   try clear hx144_0
                   try clear hx151_0
                   try clear hx151_1
                   try clear hx153_0
                   try clear hx153_1
                   try clear hx153_2
                   try clear hx153_3
                   try clear hx155_0
                   try clear p1
                   try clear p13
                   try clear p135
                   try clear p14
                   try clear p144
                   try clear p151
                   try clear p153
                   try clear p155
                   try clear p2
                   try clear q1
                   try clear q13
                   try clear q135
                   try clear q14
                   try clear q144
                   try clear q151
                   try clear q153
                   try clear q155
                   try clear q2
                   try clear q21
                   obtain ⟨kq, x46_30, rfl, HA, HJ30, HO_6, HO_7, HO_34, BK134, BK152, BK154, HB⟩ := hcut
                   cases kq with
                   | zero => exact absurd HA.out (by simp [valid_round.j2])
                   | succ kj30 =>
                    have H := HA.out
                    clear HA
                    simp only [valid_round.j2] at H
                    by_cases c61 : x46_30 = true
                    ·subst c61
                     have H1 : (valid_round.l1 kj30 a1 t136 x6_2 x7_2 t148 (t148.length : Int) (wrap64 (x36_2 + 1)) l0_0 l0_1) = some r := by rw [if_pos rfl] at H; exact H
                     clear H
                     have H := H1
                     clear H1
                     have H' := Aside0.mk H
                     clear H
                     go_wp2
                     go_roundg kj30
                     case measure => have := HK1.out; have := HK2.out; have := HJ30.out; omega
                     case rel => exact ⟨(x6_2), (x7_2), (wrap64 (x36_2 + 1)), (by first | rfl | (simp; done) | (simp [*]; done)), H', ⟨by have := HK1.out; have := HK2.out; have := HJ30.out; omega⟩, ⟨by (with_reducible repeat (first | apply Kd.R_alloc | apply Kd.R_drewN | apply Kd.R_drew)); exact HO_6.out⟩, ⟨by (with_reducible repeat (first | apply Kd.Q_alloc | apply Kd.Q_drewN | apply Kd.Q_drew)); exact HO_7.out⟩, ⟨by (with_reducible repeat (first | apply Kd.R_alloc | apply Kd.R_drewN | apply Kd.R_drew)); exact Kd.R_mono HO_34.out (fun _ hk => trivial)⟩, ⟨by (with_reducible repeat (first | refine blk_drewN ?_ _ | refine blk_drew ?_ | refine blk_alloc ?_ _)); exact BK134.out⟩, ⟨by repeat (first | (with_reducible first | exact HB.out | apply below_alloc | apply pw_below_drewN | apply below_drew1 | refine below_set ?_ GE134.out | refine below_set ?_ GE152.out | refine below_set ?_ GE154.out) | exact HB.out)⟩⟩
                    ·replace c61 := Bool.eq_false_iff.mpr c61
                     subst c61
                     have H1 : (if ((rd_T47 t148 x36_2).f0) = a1 then (if 0 ≤ a1 then (if a1 < (x6_2.length : Int) then (some (rdOf false (x6_2.set (a1 : Int).toNat true) a1)) else (none)) else (none)) else (if 0 ≤ ((rd_T47 t148 x36_2).f0) then (if ((rd_T47 t148 x36_2).f0) < (x6_2.length : Int) then (if x7_2.length < 17592186044416 then (valid_round.l1 kj30 a1 t136 (x6_2.set (((rd_T47 t148 x36_2).f0) : Int).toNat true) (x7_2 ++ [((rd_T47 t148 x36_2).f0)]) t148 (t148.length : Int) (wrap64 (x36_2 + 1)) l0_0 l0_1) else (none)) else (none)) else (none))) = some r := by rw [if_neg (show ¬ (false = true) by decide)] at H; exact H
                     clear H
                     have H := H1
                     clear H1
                     by_cases c62 : ((rd_T47 t148 x36_2).f0) = a1
                     ·rw [if_pos c62] at H
                      have c62b0 : (((rd_T47 t148 x36_2).f0) == a1) = true := beq_iff_eq.mpr c62
                      have c62b1 : (((rd_T47 t148 x36_2).f0) != a1) = false := bne_eq_false_iff_eq.mpr c62
                      clear c62
                      by_cases c63 : 0 ≤ a1
                      ·rw [if_pos c63] at H
                       have c63b0 : decide (0 ≤ a1) = true := decide_eq_true c63
                       clear c63
                       by_cases c64 : a1 < (x6_2.length : Int)
                       ·rw [if_pos c64] at H
                        have c64b0 : decide (a1 < (x6_2.length : Int)) = true := decide_eq_true c64
                        clear c64
                        obtain ⟨y157, hy157⟩ : ∃ y_ : List Bool, y_ = (x6_2.set (a1 : Int).toNat true) := ⟨_, rfl⟩
                        replace H : (some (rdOf false y157 a1)) = some r := by first | (rw [hy157]; with_reducible exact H) | (have H2_ := (Option.bind_some _ _).symm.trans H; rw [hy157]; with_reducible exact H2_) | (have H2_ := (Option.bind_some _ _).symm.trans H; with_reducible exact H2_) | with_reducible exact H | (rw [hy157]; exact H) | exact H
                        have Ny157 := Aside0.mk hy157
                        clear hy157
                        obtain rfl := Option.some.inj H
                        have hnb66 := NB152_134.out
                        have hnc66 := NB134_152.out
                        have hnb67 := NB152_154.out
                        have hnc67 := NB154_152.out
                        have hcz68_0 : wc.cell? ⟨gb152, 0, none⟩ = some (.int .i64 ((rd_T47 t148 x36_2).f0)) := (blk_cell BK152.out 0).trans rfl
                        have hcz68_1 : wc.cell? ⟨gb152, 1, none⟩ = some (.int .i64 ((rd_T47 t148 x36_2).f1)) := (blk_cell BK152.out 1).trans rfl
                        have hfz68_0 := blk_frozen BK152.out 0
                        have hfz68_1 := blk_frozen BK152.out 1
                        have p65 : 0 ≤ (a1 : Int) := of_decide_eq_true (by first | (with_reducible assumption) | assumption)
                        have q65 : (a1 : Int) < ((x6_2.length : Int) : Int) := of_decide_eq_true (by first | (with_reducible assumption) | assumption)
                        obtain ⟨go65, co65, eo65, gb65, gl65, cl65, HG65⟩ := Kd.R_form HO_6.out (by omega)
                        (first | cases eo65 | (injection eo65 with ea_ en_ ec_; (first | subst ea_ | (injection ea_ with ea_; subst ea_)); subst ec_; clear en_))
                        have GB65 := Aside0.mk gb65
                        have GG65 := Aside0.mk HG65
                        clear gb65 gl65 HG65
                        (first | simp only [add_plain] at hx155_0 | skip)
                        obtain ⟨hx65_0, hf65_0⟩ := Kd.R_celln false HO_6.out (a1 : Int) p65 q65
                        replace p65 := eq_true p65
                        replace q65 := eq_true q65
                        have HP69 := Kd.R_putg HO_6.out (a1 : Int) true
                        go_wp2_with (first | ((with_reducible refine gate_store (t := 4) (p := 72) rfl ?_); refine store_event (t := 4) (p := 72) (v := ?vo_w70) (w1 := (wc.setCell ⟨go65, (a1 : Int).toNat, none⟩ (.bool true))) ?hg ?ho ?hn ?hr ?_; (case ho => rfl); (case hg => rfl); (case hn => rfl); (case hr => first | (go_simp; done) | (go_simp; rfl)); intro w70 hw; have hg : wc.grownBy w70 (some go65) := (by rw [hw]; exact HP69.2); have hp_ : Kd.R Kd.bool 4 w70 w.heap.size (fun _ => True) (.slice (some ⟨go65, 0, none⟩) x6_2.length co41) y157 := (by rw [hw, Ny157.out]; exact HP69.1); clear HP69; have n0_ := Aside0.mk (hp_); have n1_ := Aside0.mk (Kd.Q_over' (v := (.slice (some ⟨go65, 0, none⟩) x6_2.length co41)) (by (with_reducible repeat (first | apply Kd.Q_alloc | apply Kd.Q_drewN | apply Kd.Q_drew)); exact HO_7.out) (Kd.R_typed HO_6.out) (by decide) hg); have n2_ := Aside0.mk (Kd.R_over' (v := (.slice (some ⟨go65, 0, none⟩) x6_2.length co41)) (by (with_reducible repeat (first | apply Kd.R_alloc | apply Kd.R_drewN | apply Kd.R_drew)); exact HO_34.out) (Kd.R_typed HO_6.out) (by decide) hg); have n3_ := Aside0.mk (blk_grown (g := gb134) (o := .cells #[.slice (some ad135) l0_0.length c0_0, .slice A0_1 l0_1.length c0_1] 29 (0, 0)) (by (with_reducible repeat (first | refine blk_drewN ?_ _ | refine blk_drew ?_ | refine blk_alloc ?_ _)); exact BK134.out) hg (Kd.R_ne HO_6.out BK134.out (by decide))); have n4_ := Aside0.mk (blk_grown (g := gb152) (o := .cells #[.int .i64 ((rd_T47 t148 x36_2).f0), .int .i64 ((rd_T47 t148 x36_2).f1)] 47 (0, 0)) (by (with_reducible repeat (first | refine blk_drewN ?_ _ | refine blk_drew ?_ | refine blk_alloc ?_ _)); exact BK152.out) hg (Kd.R_ne HO_6.out BK152.out (by decide))); have n5_ := Aside0.mk (blk_grown (g := gb154) (o := .cells #[.int .i64 ((rd_T23 l0_0 ((rd_T47 t148 x36_2).f0)).f0), .int .i64 ((rd_T23 l0_0 ((rd_T47 t148 x36_2).f0)).f1), .int .i64 ((rd_T23 l0_0 ((rd_T47 t148 x36_2).f0)).f2), .int .i64 ((rd_T23 l0_0 ((rd_T47 t148 x36_2).f0)).f3)] 23 (0, 0)) (by (with_reducible repeat (first | refine blk_drewN ?_ _ | refine blk_drew ?_ | refine blk_alloc ?_ _)); exact BK154.out) hg (Kd.R_ne HO_6.out BK154.out (by decide))); have n6_ := Aside0.mk ((by rw [hw]; exact below_set (HB.out) GB65.out : Below w.heap.size w w70)); clear HO_6; clear HO_7; clear HO_34; clear BK134; clear BK152; clear BK154; clear HB; have HO_6 := n0_; have HO_7 := n1_; have HO_34 := n2_; have BK134 := n3_; have BK152 := n4_; have BK154 := n5_; have HB := n6_; clear n0_ n1_ n2_ n3_ n4_ n5_ n6_; clear hg hw hp_; have p158 : 0 ≤ (a1 : Int) := of_decide_eq_true (by first | (with_reducible assumption) | assumption); have q158 : a1 < (y157.length : Int) := (by have h_ : (a1 : Int) < ((x6_2.length : Int) : Int) := of_decide_eq_true (by first | (with_reducible assumption) | assumption); first | (have e_ := (Kd.R_reads' HO_6.out).1; omega) | simpa only [Ny157.out, List.length_set] using h_); have ql158 : ((a1 : Int) < ((x6_2.length : Int) : Int)) = True := eq_true (of_decide_eq_true (by first | (with_reducible assumption) | assumption)); obtain ⟨ad158, e158, hx158_0⟩ := Kd.at_bool (Kd.R_reads' HO_6.out).2.2 a1 p158 q158; obtain rfl : (⟨go65, 0, none⟩ : Addr) = ad158 := (by injection e158); (first | simp only [add_plain] at hx158_0 | simp only [add_at] at hx158_0 | simp only [Addr.add, Nat.zero_add] at hx158_0 | skip); replace p158 := eq_true p158; replace q158 := eq_true q158))
                        (try rw [Exit.noGoto_ret])
                        go_ret
                        exact ⟨by first | rfl | (simp [errW_none, errW_some] <;> rfl) | (simp [*, errW_none, errW_some] <;> rfl), by repeat (first | (with_reducible first | exact HB.out | apply below_alloc | apply pw_below_drewN | apply below_drew1 | refine below_set ?_ GE134.out | refine below_set ?_ GE152.out | refine below_set ?_ GE154.out) | exact HB.out)⟩
                       ·rw [if_neg c64] at H
                        exact absurd H (by simp)
                      ·rw [if_neg c63] at H
                       exact absurd H (by simp)
                     ·rw [if_neg c62] at H
                      have c62b0 : (((rd_T47 t148 x36_2).f0) == a1) = false := beq_eq_false_iff_ne.mpr c62
                      have c62b1 : (((rd_T47 t148 x36_2).f0) != a1) = true := bne_iff_ne.mpr c62
                      by_cases c71 : 0 ≤ ((rd_T47 t148 x36_2).f0)
                      ·rw [if_pos c71] at H
                       have c71b0 : decide (0 ≤ ((rd_T47 t148 x36_2).f0)) = true := decide_eq_true c71
                       clear c71
                       by_cases c72 : ((rd_T47 t148 x36_2).f0) < (x6_2.length : Int)
                       ·rw [if_pos c72] at H
                        have c72b0 : decide (((rd_T47 t148 x36_2).f0) < (x6_2.length : Int)) = true := decide_eq_true c72
                        clear c72
                        obtain ⟨y159, hy159⟩ : ∃ y_ : List Bool, y_ = (x6_2.set (((rd_T47 t148 x36_2).f0) : Int).toNat true) := ⟨_, rfl⟩
                        replace H : (if x7_2.length < 17592186044416 then (valid_round.l1 kj30 a1 t136 y159 (x7_2 ++ [((rd_T47 t148 x36_2).f0)]) t148 (t148.length : Int) (wrap64 (x36_2 + 1)) l0_0 l0_1) else (none)) = some r := by first | (rw [hy159]; with_reducible exact H) | (have H2_ := (Option.bind_some _ _).symm.trans H; rw [hy159]; with_reducible exact H2_) | (have H2_ := (Option.bind_some _ _).symm.trans H; with_reducible exact H2_) | with_reducible exact H | (rw [hy159]; exact H) | exact H
                        have Ny159 := Aside0.mk hy159
                        clear hy159
                        by_cases c74 : x7_2.length < 17592186044416
                        ·rw [if_pos c74] at H
                         have LMc74 := Aside0.mk c74
                         clear c74
                         obtain ⟨y160, hy160⟩ : ∃ y_ : List Int, y_ = (x7_2 ++ [((rd_T47 t148 x36_2).f0)]) := ⟨_, rfl⟩
                         replace H : (valid_round.l1 kj30 a1 t136 y159 y160 t148 (t148.length : Int) (wrap64 (x36_2 + 1)) l0_0 l0_1) = some r := by first | (rw [hy160]; with_reducible exact H) | (have H2_ := (Option.bind_some _ _).symm.trans H; rw [hy160]; with_reducible exact H2_) | (have H2_ := (Option.bind_some _ _).symm.trans H; with_reducible exact H2_) | with_reducible exact H | (rw [hy160]; exact H) | exact H
                         have Ny160 := Aside0.mk hy160
                         clear hy160
                         have H' := Aside0.mk H
                         clear H
                         have hnb75 := NB152_134.out
                         have hnc75 := NB134_152.out
                         have hnb76 := NB152_154.out
                         have hnc76 := NB154_152.out
                         have hcz77_0 : wc.cell? ⟨gb152, 0, none⟩ = some (.int .i64 ((rd_T47 t148 x36_2).f0)) := (blk_cell BK152.out 0).trans rfl
                         have hcz77_1 : wc.cell? ⟨gb152, 1, none⟩ = some (.int .i64 ((rd_T47 t148 x36_2).f1)) := (blk_cell BK152.out 1).trans rfl
                         have hfz77_0 := blk_frozen BK152.out 0
                         have hfz77_1 := blk_frozen BK152.out 1
                         have p73 : 0 ≤ (((rd_T47 t148 x36_2).f0) : Int) := of_decide_eq_true (by first | (with_reducible assumption) | assumption)
                         have q73 : (((rd_T47 t148 x36_2).f0) : Int) < ((x6_2.length : Int) : Int) := of_decide_eq_true (by first | (with_reducible assumption) | assumption)
                         obtain ⟨go73, co73, eo73, gb73, gl73, cl73, HG73⟩ := Kd.R_form HO_6.out (by omega)
                         (first | cases eo73 | (injection eo73 with ea_ en_ ec_; (first | subst ea_ | (injection ea_ with ea_; subst ea_)); subst ec_; clear en_))
                         have GB73 := Aside0.mk gb73
                         have GG73 := Aside0.mk HG73
                         clear gb73 gl73 HG73
                         obtain ⟨hx73_0, hf73_0⟩ := Kd.R_celln false HO_6.out (((rd_T47 t148 x36_2).f0) : Int) p73 q73
                         replace p73 := eq_true p73
                         replace q73 := eq_true q73
                         have HP78 := Kd.R_putg HO_6.out (((rd_T47 t148 x36_2).f0) : Int) true
                         go_wp2_with (first | ((with_reducible refine gate_store (t := 4) (p := 76) rfl ?_); refine store_event (t := 4) (p := 76) (v := ?vo_w79) (w1 := (wc.setCell ⟨go73, (((rd_T47 t148 x36_2).f0) : Int).toNat, none⟩ (.bool true))) ?hg ?ho ?hn ?hr ?_; (case ho => rfl); (case hg => rfl); (case hn => rfl); (case hr => first | (go_simp; done) | (go_simp; rfl)); intro w79 hw; have hg : wc.grownBy w79 (some go73) := (by rw [hw]; exact HP78.2); have hp_ : Kd.R Kd.bool 4 w79 w.heap.size (fun _ => True) (.slice (some ⟨go73, 0, none⟩) x6_2.length co41) y159 := (by rw [hw, Ny159.out]; exact HP78.1); clear HP78; have n0_ := Aside0.mk (hp_); have n1_ := Aside0.mk (Kd.Q_over' (v := (.slice (some ⟨go73, 0, none⟩) x6_2.length co41)) (by (with_reducible repeat (first | apply Kd.Q_alloc | apply Kd.Q_drewN | apply Kd.Q_drew)); exact HO_7.out) (Kd.R_typed HO_6.out) (by decide) hg); have n2_ := Aside0.mk (Kd.R_over' (v := (.slice (some ⟨go73, 0, none⟩) x6_2.length co41)) (by (with_reducible repeat (first | apply Kd.R_alloc | apply Kd.R_drewN | apply Kd.R_drew)); exact HO_34.out) (Kd.R_typed HO_6.out) (by decide) hg); have n3_ := Aside0.mk (blk_grown (g := gb134) (o := .cells #[.slice (some ad135) l0_0.length c0_0, .slice A0_1 l0_1.length c0_1] 29 (0, 0)) (by (with_reducible repeat (first | refine blk_drewN ?_ _ | refine blk_drew ?_ | refine blk_alloc ?_ _)); exact BK134.out) hg (Kd.R_ne HO_6.out BK134.out (by decide))); have n4_ := Aside0.mk (blk_grown (g := gb152) (o := .cells #[.int .i64 ((rd_T47 t148 x36_2).f0), .int .i64 ((rd_T47 t148 x36_2).f1)] 47 (0, 0)) (by (with_reducible repeat (first | refine blk_drewN ?_ _ | refine blk_drew ?_ | refine blk_alloc ?_ _)); exact BK152.out) hg (Kd.R_ne HO_6.out BK152.out (by decide))); have n5_ := Aside0.mk (blk_grown (g := gb154) (o := .cells #[.int .i64 ((rd_T23 l0_0 ((rd_T47 t148 x36_2).f0)).f0), .int .i64 ((rd_T23 l0_0 ((rd_T47 t148 x36_2).f0)).f1), .int .i64 ((rd_T23 l0_0 ((rd_T47 t148 x36_2).f0)).f2), .int .i64 ((rd_T23 l0_0 ((rd_T47 t148 x36_2).f0)).f3)] 23 (0, 0)) (by (with_reducible repeat (first | refine blk_drewN ?_ _ | refine blk_drew ?_ | refine blk_alloc ?_ _)); exact BK154.out) hg (Kd.R_ne HO_6.out BK154.out (by decide))); have n6_ := Aside0.mk ((by rw [hw]; exact below_set (HB.out) GB73.out : Below w.heap.size w w79)); clear HO_6; clear HO_7; clear HO_34; clear BK134; clear BK152; clear BK154; clear HB; have HO_6 := n0_; have HO_7 := n1_; have HO_34 := n2_; have BK134 := n3_; have BK152 := n4_; have BK154 := n5_; have HB := n6_; clear n0_ n1_ n2_ n3_ n4_ n5_ n6_; clear hg hw hp_; have hcz80_0 : w79.cell? ⟨gb152, 0, none⟩ = some (.int .i64 ((rd_T47 t148 x36_2).f0)) := (blk_cell BK152.out 0).trans rfl; have hcz80_1 : w79.cell? ⟨gb152, 1, none⟩ = some (.int .i64 ((rd_T47 t148 x36_2).f1)) := (blk_cell BK152.out 1).trans rfl; have hfz80_0 := blk_frozen BK152.out 0; have hfz80_1 := blk_frozen BK152.out 1) | ((with_reducible refine gate_builtin (b := .append) (xs := #[.tmp 77, .tmp 80]) rfl ?_); at_builtin; refine Kd.Q_append (Kd.int .i64) (w0 := w) w.heap.size rfl (.tmp 77) (.tmp 80) 39 3 (.int .i64 0) 8 rfl Try.underlying39 info3 rfl (by decide) (by omega) u7 x7_2 ((rd_T47 t148 x36_2).f0) [.int .i64 ((rd_T47 t148 x36_2).f0)] (fun _ => True) (fun _ => False) rfl rfl ?aP (fun _ hk => hk.elim) ?aF ?aO ?aB ?aS ?aL ?_; (case aP => exact rfl); (case aB => exact (by repeat (first | (with_reducible first | exact HB.out | apply below_alloc | apply pw_below_drewN | apply below_drew1 | refine below_set ?_ GE134.out | refine below_set ?_ GE152.out | refine below_set ?_ GE154.out) | exact HB.out))); (case aF => exact (fun _ _ => trivial)); (case aO => exact (by (with_reducible repeat (first | apply Kd.Q_alloc | apply Kd.Q_drewN | apply Kd.Q_drew)); exact HO_7.out)); (case aS => exact (below_size (by repeat (first | (with_reducible first | exact HB.out | apply below_alloc | apply pw_below_drewN | apply below_drew1 | refine below_set ?_ GE134.out | refine below_set ?_ GE152.out | refine below_set ?_ GE154.out) | exact HB.out)))); (case aL => have := LMc74.out; omega); intro v161 w81 ho hb hg hat; rw [← Ny160.out] at ho; have n0_ := Aside0.mk (Kd.R_over' (by (with_reducible repeat (first | apply Kd.R_alloc | apply Kd.R_drewN | apply Kd.R_drew)); exact HO_6.out) (Kd.Q_typed (by (with_reducible repeat (first | apply Kd.Q_alloc | apply Kd.Q_drewN | apply Kd.Q_drew)); exact HO_7.out)) (by decide) hg); have n1_ := Aside0.mk (Kd.R_over' (by (with_reducible repeat (first | apply Kd.R_alloc | apply Kd.R_drewN | apply Kd.R_drew)); exact HO_34.out) (Kd.Q_typed (by (with_reducible repeat (first | apply Kd.Q_alloc | apply Kd.Q_drewN | apply Kd.Q_drew)); exact HO_7.out)) (by decide) hg); have n2_ := Aside0.mk (blk_grown (g := gb134) (o := .cells #[.slice (some ad135) l0_0.length c0_0, .slice A0_1 l0_1.length c0_1] 29 (0, 0)) (by (with_reducible repeat (first | refine blk_drewN ?_ _ | refine blk_drew ?_ | refine blk_alloc ?_ _)); exact BK134.out) hg (Kd.Q_ne HO_7.out BK134.out (by decide))); have n3_ := Aside0.mk (blk_grown (g := gb152) (o := .cells #[.int .i64 ((rd_T47 t148 x36_2).f0), .int .i64 ((rd_T47 t148 x36_2).f1)] 47 (0, 0)) (by (with_reducible repeat (first | refine blk_drewN ?_ _ | refine blk_drew ?_ | refine blk_alloc ?_ _)); exact BK152.out) hg (Kd.Q_ne HO_7.out BK152.out (by decide))); have n4_ := Aside0.mk (blk_grown (g := gb154) (o := .cells #[.int .i64 ((rd_T23 l0_0 ((rd_T47 t148 x36_2).f0)).f0), .int .i64 ((rd_T23 l0_0 ((rd_T47 t148 x36_2).f0)).f1), .int .i64 ((rd_T23 l0_0 ((rd_T47 t148 x36_2).f0)).f2), .int .i64 ((rd_T23 l0_0 ((rd_T47 t148 x36_2).f0)).f3)] 23 (0, 0)) (by (with_reducible repeat (first | refine blk_drewN ?_ _ | refine blk_drew ?_ | refine blk_alloc ?_ _)); exact BK154.out) hg (Kd.Q_ne HO_7.out BK154.out (by decide))); have n5_ := Aside0.mk (hb); have n6_ := Aside0.mk (ho); clear HO_6; clear HO_34; clear BK134; clear BK152; clear BK154; clear HB; clear HO_7; have HO_6 := n0_; have HO_34 := n1_; have BK134 := n2_; have BK152 := n3_; have BK154 := n4_; have HB := n5_; have HO162 := n6_; clear n0_ n1_ n2_ n3_ n4_ n5_ n6_; clear ho hb hg hat))
                         go_roundg kj30
                         case measure => have := HK1.out; have := HK2.out; have := HJ30.out; omega
                         case rel => exact ⟨(y159), (y160), (wrap64 (x36_2 + 1)), (by first | rfl | (simp; done) | (simp [*]; done)), H', ⟨by have := HK1.out; have := HK2.out; have := HJ30.out; omega⟩, ⟨by (with_reducible repeat (first | apply Kd.R_alloc | apply Kd.R_drewN | apply Kd.R_drew)); exact HO_6.out⟩, ⟨by (with_reducible repeat (first | apply Kd.Q_alloc | apply Kd.Q_drewN | apply Kd.Q_drew)); exact HO162.out⟩, ⟨by (with_reducible repeat (first | apply Kd.R_alloc | apply Kd.R_drewN | apply Kd.R_drew)); exact Kd.R_mono HO_34.out (fun _ hk => trivial)⟩, ⟨by (with_reducible repeat (first | refine blk_drewN ?_ _ | refine blk_drew ?_ | refine blk_alloc ?_ _)); exact BK134.out⟩, ⟨by repeat (first | (with_reducible first | exact HB.out | apply below_alloc | apply pw_below_drewN | apply below_drew1 | refine below_set ?_ GE134.out | refine below_set ?_ GE152.out | refine below_set ?_ GE154.out) | exact HB.out)⟩⟩
                        ·rw [if_neg c74] at H
                         exact absurd H (by simp)
                       ·rw [if_neg c72] at H
                        exact absurd H (by simp)
                      ·rw [if_neg c71] at H
                       exact absurd H (by simp)
                 ·rw [if_neg c30] at H
                  exact absurd H (by simp)
                ·rw [if_neg c29] at H
                 exact absurd H (by simp)
               ·rw [if_neg c28] at H
                exact absurd H (by simp)
              ·rw [if_neg c27] at H
               exact absurd H (by simp)
             ·rw [if_neg c26] at H
              exact absurd H (by simp)
            ·rw [if_neg c25] at H
             have c25b0 : decide (x36_2 < (t148.length : Int)) = false := decide_eq_false c25
             clear c25
             have H' := Aside0.mk H
             clear H
             go_wp2
             go_roundg k2
             case measure => have := HK1.out; have := HK2.out; omega
             case rel => exact ⟨(x6_2), (x7_2), H', ⟨by have := HK1.out; have := HK2.out; omega⟩, ⟨by (with_reducible repeat (first | apply Kd.R_alloc | apply Kd.R_drewN | apply Kd.R_drew)); exact HO_6.out⟩, ⟨by (with_reducible repeat (first | apply Kd.Q_alloc | apply Kd.Q_drewN | apply Kd.Q_drew)); exact HO_7.out⟩, ⟨by (with_reducible repeat (first | refine blk_drewN ?_ _ | refine blk_drew ?_ | refine blk_alloc ?_ _)); exact BK134.out⟩, ⟨by repeat (first | (with_reducible first | exact HB.out | apply below_alloc | apply pw_below_drewN | apply below_drew1 | refine below_set ?_ GE134.out) | exact HB.out)⟩⟩
         ·rw [if_neg c18] at H
          exact absurd H (by simp)
        ·rw [if_neg c17] at H
         exact absurd H (by simp)
       ·rw [if_neg c16] at H
        have c16b0 : decide (0 < (x7_1.length : Int)) = false := decide_eq_false c16
        have c16b1 : decide (0 < x7_1.length) = false := decide_eq_false (by omega)
        clear c16
        by_cases c82 : 0 ≤ a1
        ·rw [if_pos c82] at H
         have c82b0 : decide (0 ≤ a1) = true := decide_eq_true c82
         clear c82
         by_cases c83 : a1 < (x6_1.length : Int)
         ·rw [if_pos c83] at H
          have c83b0 : decide (a1 < (x6_1.length : Int)) = true := decide_eq_true c83
          clear c83
          obtain rfl := Option.some.inj H
          obtain ⟨Ao84, co84, eo84, _⟩ := Kd.Q_slice HO_7.out
          subst eo84
          obtain ⟨Ao85, co85, eo85⟩ := Kd.R_slice HO_6.out
          subst eo85
          have p143 : 0 ≤ (a1 : Int) := of_decide_eq_true (by first | (with_reducible assumption) | assumption)
          have q143 : a1 < (x6_1.length : Int) := of_decide_eq_true (by first | (with_reducible assumption) | assumption)
          obtain ⟨ad143, e143, hx143_0⟩ := Kd.at_bool (Kd.R_reads' HO_6.out).2.2 a1 p143 q143
          cases e143
          replace p143 := eq_true p143
          replace q143 := eq_true q143
          go_wp2
          (try rw [Exit.noGoto_ret])
          go_ret
          exact ⟨by first | rfl | (simp [errW_none, errW_some] <;> rfl) | (simp [*, errW_none, errW_some] <;> rfl), by repeat (first | (with_reducible first | exact HB.out | apply below_alloc | apply pw_below_drewN | apply below_drew1 | refine below_set ?_ GE134.out) | exact HB.out)⟩
         ·rw [if_neg c83] at H
          exact absurd H (by simp)
        ·rw [if_neg c82] at H
         exact absurd H (by simp)
    ·rw [if_neg c7] at H
     exact absurd H (by simp)
   ·rw [if_neg c6] at H
    exact absurd H (by simp)
  ·rw [if_neg c4] at H
   exact absurd H (by simp)
 ·rw [if_neg c3] at H
  exact absurd H (by simp)

end Go.Proofs.Ytjlnjlnecipllaa.PAll
