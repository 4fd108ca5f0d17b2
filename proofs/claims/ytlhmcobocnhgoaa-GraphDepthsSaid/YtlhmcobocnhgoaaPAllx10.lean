-- Laid by hprint.py of this repo: the kit's printer, and contracts by hand beside it. Not trusted: Lean checks it.
import Derived.Test.YtlhmcobocnhgoaaPAllx0
import Derived.Test.YtlhmcobocnhgoaaPAllx2
import Derived.Test.YtlhmcobocnhgoaaPAllx3
import Derived.Test.YtlhmcobocnhgoaaPAllx8
namespace Go.Proofs.Ytlhmcobocnhgoaa.PAll
open Go.RowKit Go.Proofs.YtlhmcobocnhgoaaW.PrintWords Go.Proofs.YtlhmcobocnhgoaaW.PrintLast Go.Proofs.YtlhmcobocnhgoaaW.PrintMore
attribute [local go_sem] max2_int min2_int max_two min_two max_three min_three max_four min_four   -- for this text's walks alone
set_option linter.unusedVariables false
set_option linter.unusedSimpArgs false

/-! ### meanderlaw08_GraphDepths: function 8 -/
mutual
def meanderlaw08_GraphDepths.l0 : Nat → Bool → Int → List (S38) → List (S35) → Option (Bool)
  | 0, _, _, _, _ => none
  | k + 1, x3, x4, x457000, x457001 => if x4 < (x457000.length : Int) then (if 0 ≤ x4 then ((graph_InDepth.f ((rd_T38 x457000 x4).f0) ((rd_T38 x457000 x4).f1) ((rd_T38 x457000 x4).f2) ((rd_T38 x457000 x4).f3)).bind fun t466 => (if ((rd_T38 x457000 x4).f3) < 0 then (meanderlaw08_GraphDepths.j1 k x3 x4 t466 true x457000 x457001 ((rd_T38 x457000 x4).f0) ((rd_T38 x457000 x4).f1) ((rd_T38 x457000 x4).f2) ((rd_T38 x457000 x4).f3)) else (if ((rd_T38 x457000 x4).f3) > 3 then (meanderlaw08_GraphDepths.j1 k x3 x4 t466 true x457000 x457001 ((rd_T38 x457000 x4).f0) ((rd_T38 x457000 x4).f1) ((rd_T38 x457000 x4).f2) ((rd_T38 x457000 x4).f3)) else (if t466 < 0 then (meanderlaw08_GraphDepths.j1 k x3 x4 t466 true x457000 x457001 ((rd_T38 x457000 x4).f0) ((rd_T38 x457000 x4).f1) ((rd_T38 x457000 x4).f2) ((rd_T38 x457000 x4).f3)) else (meanderlaw08_GraphDepths.j1 k x3 x4 t466 (decide (t466 > 3)) x457000 x457001 ((rd_T38 x457000 x4).f0) ((rd_T38 x457000 x4).f1) ((rd_T38 x457000 x4).f2) ((rd_T38 x457000 x4).f3)))))) else (none)) else (some x3)
def meanderlaw08_GraphDepths.j1 : Nat → Bool → Int → Int → Bool → List (S38) → List (S35) → Int → Int → Int → Int → Option (Bool)
  | 0, _, _, _, _, _, _, _, _, _, _ => none
  | k + 1, x3, x4, x6, x41, x457000, x457001, x466000, x466001, x466002, x466003 => if x41 = true then (meanderlaw08_GraphDepths.l0 k x3 (wrap64 (x4 + 1)) x457000 x457001) else ((graph_Inner.f x466000 x466001 x466002 x466003).bind fun bt467 => ((graph_Ins.f x466000).bind fun t475 => (if t475 > 0 then ((graph_HasOut.f x466000).bind fun t476 => (if t476 = true then (if bt467.1 = x6 then (meanderlaw08_GraphDepths.j2 k x3 x4 x6 (bt467.2.1 != x466003) x457000 x457001 x466000 x466001 x466002 x466003) else (meanderlaw08_GraphDepths.j2 k x3 x4 x6 true x457000 x457001 x466000 x466001 x466002 x466003)) else (meanderlaw08_GraphDepths.j2 k x3 x4 x6 false x457000 x457001 x466000 x466001 x466002 x466003))) else (meanderlaw08_GraphDepths.j2 k x3 x4 x6 false x457000 x457001 x466000 x466001 x466002 x466003))))
def meanderlaw08_GraphDepths.j2 : Nat → Bool → Int → Int → Bool → List (S38) → List (S35) → Int → Int → Int → Int → Option (Bool)
  | 0, _, _, _, _, _, _, _, _, _, _ => none
  | k + 1, x3, x4, x6, x65, x457000, x457001, x466000, x466001, x466002, x466003 => if x65 = true then (some false) else (meanderlaw08_GraphDepths.l1 k x3 x4 x6 0 x457000 x457001 x466000 x466001 x466002 x466003)
def meanderlaw08_GraphDepths.l1 : Nat → Bool → Int → Int → Int → List (S38) → List (S35) → Int → Int → Int → Int → Option (Bool)
  | 0, _, _, _, _, _, _, _, _, _, _ => none
  | k + 1, x3, x4, x6, x8, x457000, x457001, x466000, x466001, x466002, x466003 => (graph_Ins.f x466000).bind fun t477 => (if x8 < t477 then ((graph_Depth.f k x457000 x457001 x4 x8).bind fun t478 => (if t478 = x6 then (meanderlaw08_GraphDepths.l1 k x3 x4 x6 (wrap64 (x8 + 1)) x457000 x457001 x466000 x466001 x466002 x466003) else (some false))) else ((graph_HasOut.f x466000).bind fun t479 => ((graph_Depth.f k x457000 x457001 x4 (-1)).bind fun t480 => (if (t479 != (t480 == x466003)) = true then (some false) else (meanderlaw08_GraphDepths.l0 k x3 (wrap64 (x4 + 1)) x457000 x457001)))))
end
def meanderlaw08_GraphDepths.f (k : Nat) (l0_0 : List (S38)) (l0_1 : List (S35)) : Option (Bool) := (meanderlaw08_shown.f k).bind fun t457 => ((meanderlaw08_few.f l0_0 l0_1).bind fun bt458 => (meanderlaw08_GraphDepths.l0 k t457 0 bt458.1 bt458.2))
theorem meanderlaw08_GraphDepths.mono_l : ∀ k, (∀ y0 y1 y2 y3, LeO (meanderlaw08_GraphDepths.l0 k y0 y1 y2 y3) (meanderlaw08_GraphDepths.l0 (k + 1) y0 y1 y2 y3)) ∧ (∀ y0 y1 y2 y3 y4 y5 y6 y7 y8 y9, LeO (meanderlaw08_GraphDepths.j1 k y0 y1 y2 y3 y4 y5 y6 y7 y8 y9) (meanderlaw08_GraphDepths.j1 (k + 1) y0 y1 y2 y3 y4 y5 y6 y7 y8 y9)) ∧ (∀ y0 y1 y2 y3 y4 y5 y6 y7 y8 y9, LeO (meanderlaw08_GraphDepths.j2 k y0 y1 y2 y3 y4 y5 y6 y7 y8 y9) (meanderlaw08_GraphDepths.j2 (k + 1) y0 y1 y2 y3 y4 y5 y6 y7 y8 y9)) ∧ (∀ y0 y1 y2 y3 y4 y5 y6 y7 y8 y9, LeO (meanderlaw08_GraphDepths.l1 k y0 y1 y2 y3 y4 y5 y6 y7 y8 y9) (meanderlaw08_GraphDepths.l1 (k + 1) y0 y1 y2 y3 y4 y5 y6 y7 y8 y9))
  | 0 => ⟨fun _ _ _ _ r h => by simp [meanderlaw08_GraphDepths.l0] at h, fun _ _ _ _ _ _ _ _ _ _ r h => by simp [meanderlaw08_GraphDepths.j1] at h, fun _ _ _ _ _ _ _ _ _ _ r h => by simp [meanderlaw08_GraphDepths.j2] at h, fun _ _ _ _ _ _ _ _ _ _ r h => by simp [meanderlaw08_GraphDepths.l1] at h⟩
  | k + 1 => by
    obtain ⟨ih0, ih1, ih2, ih3⟩ := meanderlaw08_GraphDepths.mono_l k
    refine ⟨?_, ?_, ?_, ?_⟩
    · intro y0 y1 y2 y3
      unfold meanderlaw08_GraphDepths.l0
      repeat' first
      | (with_reducible exact ih0 _ _ _ _)
      | (with_reducible exact ih1 _ _ _ _ _ _ _ _ _ _)
      | (with_reducible exact ih2 _ _ _ _ _ _ _ _ _ _)
      | (with_reducible exact ih3 _ _ _ _ _ _ _ _ _ _)
      | (with_reducible exact graph_Depth.mono _ _ _ _ _)
      | (with_reducible exact meanderlaw08_shown.mono _)
      | (with_reducible exact LeO.refl _)
      | (with_reducible exact LeO.none _)
      | (with_reducible refine LeO.ite ?_ ?_)
      | (with_reducible refine LeO.bind ?_ (fun _ => ?_))
      | exact ih0 _ _ _ _
      | exact ih1 _ _ _ _ _ _ _ _ _ _
      | exact ih2 _ _ _ _ _ _ _ _ _ _
      | exact ih3 _ _ _ _ _ _ _ _ _ _
      | exact graph_Depth.mono _ _ _ _ _
      | exact meanderlaw08_shown.mono _
      | exact LeO.none _
      | refine LeO.ite ?_ ?_
      | refine LeO.bind ?_ (fun _ => ?_)
    · intro y0 y1 y2 y3 y4 y5 y6 y7 y8 y9
      unfold meanderlaw08_GraphDepths.j1
      repeat' first
      | (with_reducible exact ih0 _ _ _ _)
      | (with_reducible exact ih1 _ _ _ _ _ _ _ _ _ _)
      | (with_reducible exact ih2 _ _ _ _ _ _ _ _ _ _)
      | (with_reducible exact ih3 _ _ _ _ _ _ _ _ _ _)
      | (with_reducible exact graph_Depth.mono _ _ _ _ _)
      | (with_reducible exact meanderlaw08_shown.mono _)
      | (with_reducible exact LeO.refl _)
      | (with_reducible exact LeO.none _)
      | (with_reducible refine LeO.ite ?_ ?_)
      | (with_reducible refine LeO.bind ?_ (fun _ => ?_))
      | exact ih0 _ _ _ _
      | exact ih1 _ _ _ _ _ _ _ _ _ _
      | exact ih2 _ _ _ _ _ _ _ _ _ _
      | exact ih3 _ _ _ _ _ _ _ _ _ _
      | exact graph_Depth.mono _ _ _ _ _
      | exact meanderlaw08_shown.mono _
      | exact LeO.none _
      | refine LeO.ite ?_ ?_
      | refine LeO.bind ?_ (fun _ => ?_)
    · intro y0 y1 y2 y3 y4 y5 y6 y7 y8 y9
      unfold meanderlaw08_GraphDepths.j2
      repeat' first
      | (with_reducible exact ih0 _ _ _ _)
      | (with_reducible exact ih1 _ _ _ _ _ _ _ _ _ _)
      | (with_reducible exact ih2 _ _ _ _ _ _ _ _ _ _)
      | (with_reducible exact ih3 _ _ _ _ _ _ _ _ _ _)
      | (with_reducible exact graph_Depth.mono _ _ _ _ _)
      | (with_reducible exact meanderlaw08_shown.mono _)
      | (with_reducible exact LeO.refl _)
      | (with_reducible exact LeO.none _)
      | (with_reducible refine LeO.ite ?_ ?_)
      | (with_reducible refine LeO.bind ?_ (fun _ => ?_))
      | exact ih0 _ _ _ _
      | exact ih1 _ _ _ _ _ _ _ _ _ _
      | exact ih2 _ _ _ _ _ _ _ _ _ _
      | exact ih3 _ _ _ _ _ _ _ _ _ _
      | exact graph_Depth.mono _ _ _ _ _
      | exact meanderlaw08_shown.mono _
      | exact LeO.none _
      | refine LeO.ite ?_ ?_
      | refine LeO.bind ?_ (fun _ => ?_)
    · intro y0 y1 y2 y3 y4 y5 y6 y7 y8 y9
      unfold meanderlaw08_GraphDepths.l1
      repeat' first
      | (with_reducible exact ih0 _ _ _ _)
      | (with_reducible exact ih1 _ _ _ _ _ _ _ _ _ _)
      | (with_reducible exact ih2 _ _ _ _ _ _ _ _ _ _)
      | (with_reducible exact ih3 _ _ _ _ _ _ _ _ _ _)
      | (with_reducible exact graph_Depth.mono _ _ _ _ _)
      | (with_reducible exact meanderlaw08_shown.mono _)
      | (with_reducible exact LeO.refl _)
      | (with_reducible exact LeO.none _)
      | (with_reducible refine LeO.ite ?_ ?_)
      | (with_reducible refine LeO.bind ?_ (fun _ => ?_))
      | exact ih0 _ _ _ _
      | exact ih1 _ _ _ _ _ _ _ _ _ _
      | exact ih2 _ _ _ _ _ _ _ _ _ _
      | exact ih3 _ _ _ _ _ _ _ _ _ _
      | exact graph_Depth.mono _ _ _ _ _
      | exact meanderlaw08_shown.mono _
      | exact LeO.none _
      | refine LeO.ite ?_ ?_
      | refine LeO.bind ?_ (fun _ => ?_)
theorem meanderlaw08_GraphDepths.mono : ∀ a0 a1 k, LeO (meanderlaw08_GraphDepths.f k a0 a1) (meanderlaw08_GraphDepths.f (k + 1) a0 a1) := by
  intro a0 a1 k
  obtain ⟨ih0, ih1, ih2, ih3⟩ := meanderlaw08_GraphDepths.mono_l k
  unfold meanderlaw08_GraphDepths.f
  repeat' first
      | (with_reducible exact ih0 _ _ _ _)
      | (with_reducible exact ih1 _ _ _ _ _ _ _ _ _ _)
      | (with_reducible exact ih2 _ _ _ _ _ _ _ _ _ _)
      | (with_reducible exact ih3 _ _ _ _ _ _ _ _ _ _)
      | (with_reducible exact graph_Depth.mono _ _ _ _ _)
      | (with_reducible exact meanderlaw08_shown.mono _)
      | (with_reducible exact LeO.refl _)
      | (with_reducible exact LeO.none _)
      | (with_reducible refine LeO.ite ?_ ?_)
      | (with_reducible refine LeO.bind ?_ (fun _ => ?_))
      | exact ih0 _ _ _ _
      | exact ih1 _ _ _ _ _ _ _ _ _ _
      | exact ih2 _ _ _ _ _ _ _ _ _ _
      | exact ih3 _ _ _ _ _ _ _ _ _ _
      | exact graph_Depth.mono _ _ _ _ _
      | exact meanderlaw08_shown.mono _
      | exact LeO.none _
      | refine LeO.ite ?_ ?_
      | refine LeO.bind ?_ (fun _ => ?_)
def meanderlaw08_GraphDepths.T17 : Bool × List (List Nat × List Nat) := (true, [([], []), ([0], [0]), ([1], [1]), ([], []), ([], []), ([4], [4]), ([3, 5, 2], [3, 5]), ([], []), ([7], [7]), ([6, 8], [6, 8]), ([2, 9], [2, 9])])
def meanderlaw08_GraphDepths.B17 : List Nat := [0, 1, 3, 0, 0, 16, 63, 0, 128, 511, 1023]
theorem meanderlaw08_GraphDepths.tab17 : rtab .any (opsOf Try.f8 17) = meanderlaw08_GraphDepths.T17 := by kernel_rfl
theorem meanderlaw08_GraphDepths.bits17 : waitsOk meanderlaw08_GraphDepths.T17.2 meanderlaw08_GraphDepths.B17 = true := by kernel_rfl
set_option maxHeartbeats 8000000 in
set_option maxRecDepth 100000 in
theorem meanderlaw08_GraphDepths.calls (k : Nat) (A0_0 : Option Addr) (c0_0 : Nat) (l0_0 : List (S38)) (A0_1 : Option Addr) (c0_1 : Nat) (l0_1 : List (S35)) (r : Bool) (w : World) (hr0_0 : Kd.C k38 w A0_0 l0_0.length l0_0) (hc0_0 : l0_0.length ≤ c0_0) (hr0_1 : Kd.C k35 w A0_1 l0_1.length l0_1) (hc0_1 : l0_1.length ≤ c0_1) (h : meanderlaw08_GraphDepths.f k l0_0 l0_1 = some r) :
    Calls Try.prog 8 #[.agg #[.slice A0_0 l0_0.length c0_0, .slice A0_1 l0_1.length c0_1]] w fun e w' => e = .returned (.bool r) ∧ Below w.heap.size w w' := by
  have hu30 := Try.underlying30
  have hu38 := Try.underlying38
  have hu51 := Try.underlying51
  have hu23 := Try.underlying23
  have HR0_0 := Aside0.mk hr0_0
  have HC0_0 := Aside0.mk hc0_0
  clear hr0_0 hc0_0
  have HR0_1 := Aside0.mk hr0_1
  have HC0_1 := Aside0.mk hc0_1
  clear hr0_1 hc0_1
  have HB := Aside0.mk (Below.refl w.heap.size w)
  have H : ((meanderlaw08_shown.f k).bind fun t457 => ((meanderlaw08_few.f l0_0 l0_1).bind fun bt458 => (meanderlaw08_GraphDepths.l0 k t457 0 bt458.1 bt458.2))) = some r := h
  clear h
  replace H := Option.bind_eq_some_iff.mp H
  obtain ⟨t457, A20, H⟩ := H
  replace H : ((meanderlaw08_few.f l0_0 l0_1).bind fun bt458 => (meanderlaw08_GraphDepths.l0 k t457 0 bt458.1 bt458.2)) = some r := H
  have A2 := Aside0.mk A20
  clear A20
  replace H := Option.bind_eq_some_iff.mp H
  obtain ⟨⟨t458, t461⟩, A30, H⟩ := H
  replace H : (meanderlaw08_GraphDepths.l0 k t457 0 t458 t461) = some r := H
  have A3 := Aside0.mk A30
  clear A30
  have H' := Aside0.mk H
  clear H
  go_enter Try.func8, Try.ntmps8
  go_wp2_with (first | ((with_reducible refine gate_dst (N := 1) rfl ?_); refine box_event ?hg (N := 1) ?hd (cs := #[.slice A0_0 l0_0.length c0_0, .slice A0_1 l0_1.length c0_1]) (t := 30) ?hr ?_; (case hd => rfl); (case hg => rfl); (case hr => first | (go_simp; done) | (go_simp; rfl)); intro gb456 hg w4 hbox hb; have n0_ := Aside0.mk (below_step (by repeat (first | (with_reducible first | exact HB.out | apply below_alloc | apply pw_below_drewN | apply below_drew1) | exact HB.out)) hb); have n1_ := Aside0.mk (hbox); have n2_ := Aside0.mk ((by rw [hg]; exact (below_size (by repeat (first | (with_reducible first | exact HB.out | apply below_alloc | apply pw_below_drewN | apply below_drew1) | exact HB.out))) : w.heap.size ≤ gb456)); have n3_ := Aside0.mk ((by rw [hg]; exact (below_size (by repeat (first | (with_reducible first | exact HB.out | apply below_alloc | apply pw_below_drewN | apply below_drew1) | exact HB.out))) : w.heap.size ≤ gb456)); clear HB; have HB := n0_; have BK456 := n1_; have GW456 := n2_; have GE456 := n3_; clear n0_ n1_ n2_ n3_; clear hb hbox hg) | ((with_reducible refine gate_callee (f := 9) rfl ?_); refine goesL_ (some 9) rfl rfl Try.func9 (by kernel_rfl) rfl #[] rfl (by (try simp only [List.map_toArray, List.map_cons, List.map_nil]); first | done | rfl | (simp only [List.length_drop, List.length_take]; rfl)) ?_; (with_reducible refine (meanderlaw08_shown.calls k  t457 _ A2.out).mono ?_); rintro e w5 ⟨rfl, hb⟩; refine ⟨_, rfl, ?_⟩; have n0_ := Aside0.mk (blk_below (g := gb456) (o := .cells #[.slice A0_0 l0_0.length c0_0, .slice A0_1 l0_1.length c0_1] 30 (0, 0)) (by (with_reducible repeat (first | refine blk_drewN ?_ _ | refine blk_drew ?_ | refine blk_alloc ?_ _)); exact BK456.out) hb); have n1_ := Aside0.mk (below_step (by repeat (first | (with_reducible first | exact HB.out | apply below_alloc | apply pw_below_drewN | apply below_drew1 | refine below_set ?_ GE456.out) | exact HB.out)) hb); clear BK456; clear HB; have BK456 := n0_; have HB := n1_; clear n0_ n1_; (try clear hb); (try clear hb2); (try clear hk); (try clear hi); have hcz6_0 : w5.cell? ⟨gb456, 0, none⟩ = some (.slice A0_0 l0_0.length c0_0) := (blk_cell BK456.out 0).trans rfl; have hcz6_1 : w5.cell? ⟨gb456, 1, none⟩ = some (.slice A0_1 l0_1.length c0_1) := (blk_cell BK456.out 1).trans rfl; have hfz6_0 := blk_frozen BK456.out 0; have hfz6_1 := blk_frozen BK456.out 1) | ((with_reducible refine gate_callee (f := 11) rfl ?_); refine goesL_ (some 11) rfl rfl Try.func11 (by kernel_rfl) rfl #[.agg #[.slice A0_0 l0_0.length c0_0, .slice A0_1 l0_1.length c0_1]] rfl (by (try simp only [List.map_toArray, List.map_cons, List.map_nil]); first | done | rfl | (simp only [List.length_drop, List.length_take]; rfl)) ?_; (with_reducible refine (meanderlaw08_few.calls (fun k_ => k_ < w.heap.size) _ _ l0_0 (fun k_ => k_ < w.heap.size) _ _ l0_1 t458 t461 _ ?side1 ?side2 A3.out).mono ?_); (case side1 => exact Kd.V_mk HC0_0.out (Kd.F_below (Kd.C_F k38_heap HR0_0.out) (by repeat (first | (with_reducible first | exact HB.out | apply below_alloc | apply pw_below_drewN | apply below_drew1 | refine below_set ?_ GE456.out) | exact HB.out)))); (case side2 => exact Kd.V_mk HC0_1.out (Kd.F_below (Kd.C_F k35_heap HR0_1.out) (by repeat (first | (with_reducible first | exact HB.out | apply below_alloc | apply pw_below_drewN | apply below_drew1 | refine below_set ?_ GE456.out) | exact HB.out)))); rintro e w7 ⟨v459, v462, rfl, ho0, ho1, hb⟩; refine ⟨_, rfl, ?_⟩; have n0_ := Aside0.mk (Kd.V_lower (Kd.V_mono (ok' := fun k_ => k_ ≠ gb456) ho0 (fun k_ hk_ => Or.elim hk_ (fun hs_ => Or.elim hs_ (fun hs_ => fun e_ => Nat.not_le.2 hs_ (by rw [e_]; exact GW456.out)) (fun hs_ => fun e_ => Nat.not_le.2 hs_ (by rw [e_]; exact GW456.out))) (fun hn_ => (Kd.freshB (g := gb456) (o := .cells #[.slice A0_0 l0_0.length c0_0, .slice A0_1 l0_1.length c0_1] 30 (0, 0)) (by (with_reducible repeat (first | refine blk_drewN ?_ _ | refine blk_drew ?_ | refine blk_alloc ?_ _)); exact BK456.out) k_ hn_)))) (below_size (by repeat (first | (with_reducible first | exact HB.out | apply below_alloc | apply pw_below_drewN | apply below_drew1 | refine below_set ?_ GE456.out) | exact HB.out)))); have n1_ := Aside0.mk (Kd.V_lower (Kd.V_mono (ok' := fun k_ => k_ ≠ gb456) ho1 (fun k_ hk_ => Or.elim hk_ (fun hs_ => Or.elim hs_ (fun hs_ => fun e_ => Nat.not_le.2 hs_ (by rw [e_]; exact GW456.out)) (fun hs_ => fun e_ => Nat.not_le.2 hs_ (by rw [e_]; exact GW456.out))) (fun hn_ => (Kd.freshB (g := gb456) (o := .cells #[.slice A0_0 l0_0.length c0_0, .slice A0_1 l0_1.length c0_1] 30 (0, 0)) (by (with_reducible repeat (first | refine blk_drewN ?_ _ | refine blk_drew ?_ | refine blk_alloc ?_ _)); exact BK456.out) k_ hn_)))) (below_size (by repeat (first | (with_reducible first | exact HB.out | apply below_alloc | apply pw_below_drewN | apply below_drew1 | refine below_set ?_ GE456.out) | exact HB.out)))); have n2_ := Aside0.mk (blk_below (g := gb456) (o := .cells #[.slice A0_0 l0_0.length c0_0, .slice A0_1 l0_1.length c0_1] 30 (0, 0)) (by (with_reducible repeat (first | refine blk_drewN ?_ _ | refine blk_drew ?_ | refine blk_alloc ?_ _)); exact BK456.out) hb); have n3_ := Aside0.mk (below_step (by repeat (first | (with_reducible first | exact HB.out | apply below_alloc | apply pw_below_drewN | apply below_drew1 | refine below_set ?_ GE456.out) | exact HB.out)) hb); clear BK456; clear HB; have HO460 := n0_; have HO463 := n1_; have BK456 := n2_; have HB := n3_; clear n0_ n1_ n2_ n3_; (try clear hb); (try clear hb2); (try clear hk); (try clear hi); (try clear ho0); (try clear ho1); obtain ⟨Ao8, co8, eo8⟩ := Kd.V_slice HO460.out; subst eo8; have hcz9_0 : w7.cell? ⟨gb456, 0, none⟩ = some (.slice A0_0 l0_0.length c0_0) := (blk_cell BK456.out 0).trans rfl; have hcz9_1 : w7.cell? ⟨gb456, 1, none⟩ = some (.slice A0_1 l0_1.length c0_1) := (blk_cell BK456.out 1).trans rfl; have hfz9_0 := blk_frozen BK456.out 0; have hfz9_1 := blk_frozen BK456.out 1; obtain ⟨Ao10, co10, eo10⟩ := Kd.V_slice HO463.out; subst eo10))
  go_loopg [4] k (fun kq v4 w' => ∃ (x4_1 : Int), v4 = .int .i64 x4_1 ∧ Aside0 (meanderlaw08_GraphDepths.l0 kq t457 x4_1 t458 t461 = some r) ∧ Aside0 (kq ≤ k) ∧ Aside0 (Kd.V k38 38 w' w.heap.size (fun k_ => k_ ≠ gb456) (.slice Ao8 t458.length co8) t458) ∧ Aside0 (Kd.V k35 35 w' w.heap.size (fun k_ => k_ ≠ gb456) (.slice Ao10 t461.length co10) t461) ∧ Aside0 (w'.heap[gb456]? = some (.cells #[(.slice Ao8 t458.length co8), (.slice Ao10 t461.length co10)] 30 (0, 0))) ∧ Aside0 (Below w.heap.size w w'))
  case atStart => exact ⟨(0), (by first | rfl | (simp; done) | (simp [*]; done)), H', ⟨Nat.le_refl _⟩, ⟨by (with_reducible repeat (first | apply Kd.V_alloc | apply Kd.V_drewN | apply Kd.V_drew)); exact Kd.V_mono (Kd.V_far (p := ⟨gb456, 1, none⟩) (Kd.V_far (p := ⟨gb456, 0, none⟩) (Kd.V_mono HO460.out (fun k_ hk => (⟨hk, hk⟩ : _ ∧ k_ ≠ gb456))) (fun _ hk => hk.2) (.slice Ao8 t458.length co8)) (fun _ hk => hk.2) (.slice Ao10 t461.length co10)) (fun _ hk => hk.1)⟩, ⟨by (with_reducible repeat (first | apply Kd.V_alloc | apply Kd.V_drewN | apply Kd.V_drew)); exact Kd.V_mono (Kd.V_far (p := ⟨gb456, 1, none⟩) (Kd.V_far (p := ⟨gb456, 0, none⟩) (Kd.V_mono HO463.out (fun k_ hk => (⟨hk, hk⟩ : _ ∧ k_ ≠ gb456))) (fun _ hk => hk.2) (.slice Ao8 t458.length co8)) (fun _ hk => hk.2) (.slice Ao10 t461.length co10)) (fun _ hk => hk.1)⟩, ⟨by (with_reducible repeat (first | refine blk_drewN ?_ _ | refine blk_drew ?_ | refine blk_alloc ?_ _)); refine blk_put (cs := #[.slice Ao8 t458.length co8, .slice A0_1 l0_1.length c0_1]) ?_ 1 _ rfl; (with_reducible repeat (first | refine blk_drewN ?_ _ | refine blk_drew ?_ | refine blk_alloc ?_ _)); refine blk_put (cs := #[.slice A0_0 l0_0.length c0_0, .slice A0_1 l0_1.length c0_1]) ?_ 0 _ rfl; (with_reducible repeat (first | refine blk_drewN ?_ _ | refine blk_drew ?_ | refine blk_alloc ?_ _)); exact BK456.out⟩, ⟨by repeat (first | (with_reducible first | exact HB.out | apply below_alloc | apply pw_below_drewN | apply below_drew1 | refine below_set ?_ GE456.out) | exact HB.out)⟩⟩
  case round =>
    clear H'
    try clear c1
    try clear p2
    try clear c8
    try clear c9
    try clear hcz6_0
    try clear hcz6_1
    try clear hcz9_0
    try clear hcz9_1
    try clear hfz6_0
    try clear hfz6_1
    try clear hfz9_0
    try clear hfz9_1
    obtain ⟨x4_1, rfl, HA, HK1, HO_457000, HO_457001, BK456, HB⟩ := hrel
    cases gk with
    | zero => exact absurd HA.out (by simp [meanderlaw08_GraphDepths.l0])
    | succ k1 =>
      have H := HA.out
      clear HA
      simp only [meanderlaw08_GraphDepths.l0] at H
      by_cases c11 : x4_1 < (t458.length : Int)
      · rw [if_pos c11] at H
        have c11b0 : decide (x4_1 < (t458.length : Int)) = true := decide_eq_true c11
        clear c11
        by_cases c12 : 0 ≤ x4_1
        · rw [if_pos c12] at H
          have c12b0 : decide (0 ≤ x4_1) = true := decide_eq_true c12
          clear c12
          replace H := Option.bind_eq_some_iff.mp H
          obtain ⟨t466, A130, H⟩ := H
          replace H : (if ((rd_T38 t458 x4_1).f3) < 0 then (meanderlaw08_GraphDepths.j1 k1 t457 x4_1 t466 true t458 t461 ((rd_T38 t458 x4_1).f0) ((rd_T38 t458 x4_1).f1) ((rd_T38 t458 x4_1).f2) ((rd_T38 t458 x4_1).f3)) else (if ((rd_T38 t458 x4_1).f3) > 3 then (meanderlaw08_GraphDepths.j1 k1 t457 x4_1 t466 true t458 t461 ((rd_T38 t458 x4_1).f0) ((rd_T38 t458 x4_1).f1) ((rd_T38 t458 x4_1).f2) ((rd_T38 t458 x4_1).f3)) else (if t466 < 0 then (meanderlaw08_GraphDepths.j1 k1 t457 x4_1 t466 true t458 t461 ((rd_T38 t458 x4_1).f0) ((rd_T38 t458 x4_1).f1) ((rd_T38 t458 x4_1).f2) ((rd_T38 t458 x4_1).f3)) else (meanderlaw08_GraphDepths.j1 k1 t457 x4_1 t466 (decide (t466 > 3)) t458 t461 ((rd_T38 t458 x4_1).f0) ((rd_T38 t458 x4_1).f1) ((rd_T38 t458 x4_1).f2) ((rd_T38 t458 x4_1).f3))))) = some r := H
          have A13 := Aside0.mk A130
          clear A130
          have HC14 := Aside0.mk H
          clear H
          have hcz15_0 : wr.cell? ⟨gb456, 0, none⟩ = some (.slice Ao8 t458.length co8) := (blk_cell BK456.out 0).trans rfl
          have hcz15_1 : wr.cell? ⟨gb456, 1, none⟩ = some (.slice Ao10 t461.length co10) := (blk_cell BK456.out 1).trans rfl
          have hfz15_0 := blk_frozen BK456.out 0
          have hfz15_1 := blk_frozen BK456.out 1
          have p464 : 0 ≤ (x4_1 : Int) := of_decide_eq_true (by first | (with_reducible assumption) | assumption)
          have q464 : x4_1 < (t458.length : Int) := of_decide_eq_true (by first | (with_reducible assumption) | assumption)
          obtain ⟨ad464, e464, hx464_0, hx464_1, hx464_2, hx464_3⟩ := at_T38 (Kd.V_reads' HO_457000.out).2.2 x4_1 p464 q464
          cases e464
          replace p464 := eq_true p464
          replace q464 := eq_true q464
          go_upto_region 8 with (first | ((with_reducible refine gate_dst (N := 5) rfl ?_); refine box_event ?hg (N := 5) ?hd (cs := #[.int .i64 0, .int .i64 0, .int .i64 0, .int .i64 0]) (t := 38) ?hr ?_; (case hd => rfl); (case hg => rfl); (case hr => first | (go_simp; done) | (go_simp; rfl)); intro gb465 hg w16 hbox hb; have n0_ := Aside0.mk (Kd.V_below (Kd.V_elderB (by (with_reducible repeat (first | apply Kd.V_alloc | apply Kd.V_drewN | apply Kd.V_drew)); exact HO_457000.out) gb465 (Nat.le_of_eq hg.symm)) hb); have n1_ := Aside0.mk (Kd.V_below (Kd.V_elderB (by (with_reducible repeat (first | apply Kd.V_alloc | apply Kd.V_drewN | apply Kd.V_drew)); exact HO_457001.out) gb465 (Nat.le_of_eq hg.symm)) hb); have n2_ := Aside0.mk (blk_below (g := gb456) (o := .cells #[.slice (some ad464) t458.length co8, .slice Ao10 t461.length co10] 30 (0, 0)) (by (with_reducible repeat (first | refine blk_drewN ?_ _ | refine blk_drew ?_ | refine blk_alloc ?_ _)); exact BK456.out) hb); have n3_ := Aside0.mk (below_step (by repeat (first | (with_reducible first | exact HB.out | apply below_alloc | apply pw_below_drewN | apply below_drew1 | refine below_set ?_ GE456.out) | exact HB.out)) hb); have n4_ := Aside0.mk (hbox); have n5_ := Aside0.mk ((by rw [hg]; exact (below_size (by repeat (first | (with_reducible first | exact HB.out | apply below_alloc | apply pw_below_drewN | apply below_drew1 | refine below_set ?_ GE456.out) | exact HB.out))) : w.heap.size ≤ gb465)); have n6_ := Aside0.mk ((by rw [hg]; exact (below_size (by repeat (first | (with_reducible first | exact HB.out | apply below_alloc | apply pw_below_drewN | apply below_drew1 | refine below_set ?_ GE456.out) | exact HB.out))) : w.heap.size ≤ gb465)); have n7_ := Aside0.mk ((by rw [hg]; exact Nat.ne_of_lt (blk_lt (g := gb456) (o := .cells #[.slice (some ad464) t458.length co8, .slice Ao10 t461.length co10] 30 (0, 0)) (by (with_reducible repeat (first | refine blk_drewN ?_ _ | refine blk_drew ?_ | refine blk_alloc ?_ _)); exact BK456.out)) : gb456 ≠ gb465)); have n8_ := Aside0.mk ((by rw [hg]; exact Nat.ne_of_gt (blk_lt (g := gb456) (o := .cells #[.slice (some ad464) t458.length co8, .slice Ao10 t461.length co10] 30 (0, 0)) (by (with_reducible repeat (first | refine blk_drewN ?_ _ | refine blk_drew ?_ | refine blk_alloc ?_ _)); exact BK456.out)) : gb465 ≠ gb456)); clear HO_457000; clear HO_457001; clear BK456; clear HB; have HO_457000 := n0_; have HO_457001 := n1_; have BK456 := n2_; have HB := n3_; have BK465 := n4_; have GW465 := n5_; have GE465 := n6_; have NB456_465 := n7_; have NB465_456 := n8_; clear n0_ n1_ n2_ n3_ n4_ n5_ n6_ n7_ n8_; clear hb hbox hg; have hnb17 := NB465_456.out; have hnc17 := NB456_465.out; have hcz18_0 : w16.cell? ⟨gb465, 0, none⟩ = some (.int .i64 0) := (blk_cell BK465.out 0).trans rfl; have hcz18_1 : w16.cell? ⟨gb465, 1, none⟩ = some (.int .i64 0) := (blk_cell BK465.out 1).trans rfl; have hcz18_2 : w16.cell? ⟨gb465, 2, none⟩ = some (.int .i64 0) := (blk_cell BK465.out 2).trans rfl; have hcz18_3 : w16.cell? ⟨gb465, 3, none⟩ = some (.int .i64 0) := (blk_cell BK465.out 3).trans rfl; have hfz18_0 := blk_frozen BK465.out 0; have hfz18_1 := blk_frozen BK465.out 1; have hfz18_2 := blk_frozen BK465.out 2; have hfz18_3 := blk_frozen BK465.out 3) | ((with_reducible refine gate_callee (f := 28) rfl ?_); refine goesL_ (some 25) rfl rfl Try.func28 (by kernel_rfl) rfl #[.agg #[.int .i64 ((rd_T38 t458 x4_1).f0), .int .i64 ((rd_T38 t458 x4_1).f1), .int .i64 ((rd_T38 t458 x4_1).f2), .int .i64 ((rd_T38 t458 x4_1).f3)]] rfl (by (try simp only [List.map_toArray, List.map_cons, List.map_nil]); first | done | rfl | (simp only [List.length_drop, List.length_take]; rfl)) ?_; (with_reducible refine (graph_InDepth.calls ((rd_T38 t458 x4_1).f0) ((rd_T38 t458 x4_1).f1) ((rd_T38 t458 x4_1).f2) ((rd_T38 t458 x4_1).f3) t466 _ A13.out).mono ?_); rintro e w19 ⟨rfl, hb⟩; refine ⟨_, rfl, ?_⟩; have n0_ := Aside0.mk (Kd.V_below (by (with_reducible repeat (first | apply Kd.V_alloc | apply Kd.V_drewN | apply Kd.V_drew)); exact (Kd.V_mono (Kd.V_far (p := ⟨gb465, 3, none⟩) (Kd.V_far (p := ⟨gb465, 2, none⟩) (Kd.V_far (p := ⟨gb465, 1, none⟩) (Kd.V_far (p := ⟨gb465, 0, none⟩) (Kd.V_mono HO_457000.out (fun k_ hk => (⟨hk, hk.2⟩ : _ ∧ k_ ≠ gb465))) (fun _ hk => hk.2) (.int .i64 ((rd_T38 t458 x4_1).f0))) (fun _ hk => hk.2) (.int .i64 ((rd_T38 t458 x4_1).f1))) (fun _ hk => hk.2) (.int .i64 ((rd_T38 t458 x4_1).f2))) (fun _ hk => hk.2) (.int .i64 ((rd_T38 t458 x4_1).f3))) (fun _ h_ => h_.1))) hb); have n1_ := Aside0.mk (Kd.V_below (by (with_reducible repeat (first | apply Kd.V_alloc | apply Kd.V_drewN | apply Kd.V_drew)); exact (Kd.V_mono (Kd.V_far (p := ⟨gb465, 3, none⟩) (Kd.V_far (p := ⟨gb465, 2, none⟩) (Kd.V_far (p := ⟨gb465, 1, none⟩) (Kd.V_far (p := ⟨gb465, 0, none⟩) (Kd.V_mono HO_457001.out (fun k_ hk => (⟨hk, hk.2⟩ : _ ∧ k_ ≠ gb465))) (fun _ hk => hk.2) (.int .i64 ((rd_T38 t458 x4_1).f0))) (fun _ hk => hk.2) (.int .i64 ((rd_T38 t458 x4_1).f1))) (fun _ hk => hk.2) (.int .i64 ((rd_T38 t458 x4_1).f2))) (fun _ hk => hk.2) (.int .i64 ((rd_T38 t458 x4_1).f3))) (fun _ h_ => h_.1))) hb); have n2_ := Aside0.mk (blk_below (g := gb456) (o := .cells #[.slice (some ad464) t458.length co8, .slice Ao10 t461.length co10] 30 (0, 0)) (by (with_reducible repeat (first | refine blk_drewN ?_ _ | refine blk_drew ?_ | refine blk_alloc ?_ _)); refine blk_far ?_ NB456_465.out _; (with_reducible repeat (first | refine blk_drewN ?_ _ | refine blk_drew ?_ | refine blk_alloc ?_ _)); refine blk_far ?_ NB456_465.out _; (with_reducible repeat (first | refine blk_drewN ?_ _ | refine blk_drew ?_ | refine blk_alloc ?_ _)); refine blk_far ?_ NB456_465.out _; (with_reducible repeat (first | refine blk_drewN ?_ _ | refine blk_drew ?_ | refine blk_alloc ?_ _)); refine blk_far ?_ NB456_465.out _; (with_reducible repeat (first | refine blk_drewN ?_ _ | refine blk_drew ?_ | refine blk_alloc ?_ _)); exact BK456.out) hb); have n3_ := Aside0.mk (blk_below (g := gb465) (o := .cells #[.int .i64 ((rd_T38 t458 x4_1).f0), .int .i64 ((rd_T38 t458 x4_1).f1), .int .i64 ((rd_T38 t458 x4_1).f2), .int .i64 ((rd_T38 t458 x4_1).f3)] 38 (0, 0)) (by (with_reducible repeat (first | refine blk_drewN ?_ _ | refine blk_drew ?_ | refine blk_alloc ?_ _)); refine blk_put (cs := #[.int .i64 ((rd_T38 t458 x4_1).f0), .int .i64 ((rd_T38 t458 x4_1).f1), .int .i64 ((rd_T38 t458 x4_1).f2), .int .i64 0]) ?_ 3 _ rfl; (with_reducible repeat (first | refine blk_drewN ?_ _ | refine blk_drew ?_ | refine blk_alloc ?_ _)); refine blk_put (cs := #[.int .i64 ((rd_T38 t458 x4_1).f0), .int .i64 ((rd_T38 t458 x4_1).f1), .int .i64 0, .int .i64 0]) ?_ 2 _ rfl; (with_reducible repeat (first | refine blk_drewN ?_ _ | refine blk_drew ?_ | refine blk_alloc ?_ _)); refine blk_put (cs := #[.int .i64 ((rd_T38 t458 x4_1).f0), .int .i64 0, .int .i64 0, .int .i64 0]) ?_ 1 _ rfl; (with_reducible repeat (first | refine blk_drewN ?_ _ | refine blk_drew ?_ | refine blk_alloc ?_ _)); refine blk_put (cs := #[.int .i64 0, .int .i64 0, .int .i64 0, .int .i64 0]) ?_ 0 _ rfl; (with_reducible repeat (first | refine blk_drewN ?_ _ | refine blk_drew ?_ | refine blk_alloc ?_ _)); exact BK465.out) hb); have n4_ := Aside0.mk (below_step (by repeat (first | (with_reducible first | exact HB.out | apply below_alloc | apply pw_below_drewN | apply below_drew1 | refine below_set ?_ GE456.out | refine below_set ?_ GE465.out) | exact HB.out)) hb); clear HO_457000; clear HO_457001; clear BK456; clear BK465; clear HB; have HO_457000 := n0_; have HO_457001 := n1_; have BK456 := n2_; have BK465 := n3_; have HB := n4_; clear n0_ n1_ n2_ n3_ n4_; (try clear hb); (try clear hb2); (try clear hk); (try clear hi)))
          (try simp only [Act.put, List.setIfInBounds_toArray, List.set_cons_zero, List.set_cons_succ])
          go_cut [41] (fun v41 wc => ∃ (kq : Nat) (x41_13 : Bool), v41 = .bool x41_13 ∧ Aside0 (meanderlaw08_GraphDepths.j1 kq t457 x4_1 t466 x41_13 t458 t461 ((rd_T38 t458 x4_1).f0) ((rd_T38 t458 x4_1).f1) ((rd_T38 t458 x4_1).f2) ((rd_T38 t458 x4_1).f3) = some r) ∧ Aside0 (kq ≤ k1) ∧ Aside0 (Kd.V k38 38 wc w.heap.size (fun k_ => k_ ≠ gb456 ∧ k_ ≠ gb465) (.slice (some ad464) t458.length co8) t458) ∧ Aside0 (Kd.V k35 35 wc w.heap.size (fun k_ => k_ ≠ gb456 ∧ k_ ≠ gb465) (.slice Ao10 t461.length co10) t461) ∧ Aside0 (wc.heap[gb456]? = some (.cells #[(.slice (some ad464) t458.length co8), (.slice Ao10 t461.length co10)] 30 (0, 0))) ∧ Aside0 (wc.heap[gb465]? = some (.cells #[.int .i64 ((rd_T38 t458 x4_1).f0), .int .i64 ((rd_T38 t458 x4_1).f1), .int .i64 ((rd_T38 t458 x4_1).f2), .int .i64 ((rd_T38 t458 x4_1).f3)] 38 (0, 0))) ∧ Aside0 (Below w.heap.size w wc))
          case first =>
            have H := HC14.out
            clear HC14
            by_cases c20 : ((rd_T38 t458 x4_1).f3) < 0
            · rw [if_pos c20] at H
              have c20b0 : decide (((rd_T38 t458 x4_1).f3) < 0) = true := decide_eq_true c20
              clear c20
              (first | rw [c20b0] | (simp only [i64_w, i32_w]; rw [c20b0]) | skip)
              have H' := Aside0.mk H
              clear H
              have hnb21 := NB465_456.out
              have hnc21 := NB456_465.out
              have hcz22_0 : w19.cell? ⟨gb465, 0, none⟩ = some (.int .i64 ((rd_T38 t458 x4_1).f0)) := (blk_cell BK465.out 0).trans rfl
              have hcz22_1 : w19.cell? ⟨gb465, 1, none⟩ = some (.int .i64 ((rd_T38 t458 x4_1).f1)) := (blk_cell BK465.out 1).trans rfl
              have hcz22_2 : w19.cell? ⟨gb465, 2, none⟩ = some (.int .i64 ((rd_T38 t458 x4_1).f2)) := (blk_cell BK465.out 2).trans rfl
              have hcz22_3 : w19.cell? ⟨gb465, 3, none⟩ = some (.int .i64 ((rd_T38 t458 x4_1).f3)) := (blk_cell BK465.out 3).trans rfl
              have hfz22_0 := blk_frozen BK465.out 0
              have hfz22_1 := blk_frozen BK465.out 1
              have hfz22_2 := blk_frozen BK465.out 2
              have hfz22_3 := blk_frozen BK465.out 3
              go_wp2
              go_meet
              case rel => exact ⟨_, (true), (by first | rfl | (simp; done) | (simp [*]; done)), H', ⟨by have := HK1.out; first | omega | exact Nat.le_refl _⟩, ⟨by (with_reducible repeat (first | apply Kd.V_alloc | apply Kd.V_drewN | apply Kd.V_drew)); exact HO_457000.out⟩, ⟨by (with_reducible repeat (first | apply Kd.V_alloc | apply Kd.V_drewN | apply Kd.V_drew)); exact HO_457001.out⟩, ⟨by (with_reducible repeat (first | refine blk_drewN ?_ _ | refine blk_drew ?_ | refine blk_alloc ?_ _)); exact BK456.out⟩, ⟨by (with_reducible repeat (first | refine blk_drewN ?_ _ | refine blk_drew ?_ | refine blk_alloc ?_ _)); exact BK465.out⟩, ⟨by repeat (first | (with_reducible first | exact HB.out | apply below_alloc | apply pw_below_drewN | apply below_drew1 | refine below_set ?_ GE456.out | refine below_set ?_ GE465.out) | exact HB.out)⟩⟩
            · rw [if_neg c20] at H
              have c20b0 : decide (((rd_T38 t458 x4_1).f3) < 0) = false := decide_eq_false c20
              clear c20
              (first | rw [c20b0] | (simp only [i64_w, i32_w]; rw [c20b0]) | skip)
              by_cases c23 : ((rd_T38 t458 x4_1).f3) > 3
              · rw [if_pos c23] at H
                have c23b0 : decide (3 < ((rd_T38 t458 x4_1).f3)) = true := decide_eq_true c23
                clear c23
                have H' := Aside0.mk H
                clear H
                have hnb24 := NB465_456.out
                have hnc24 := NB456_465.out
                have hcz25_0 : w19.cell? ⟨gb465, 0, none⟩ = some (.int .i64 ((rd_T38 t458 x4_1).f0)) := (blk_cell BK465.out 0).trans rfl
                have hcz25_1 : w19.cell? ⟨gb465, 1, none⟩ = some (.int .i64 ((rd_T38 t458 x4_1).f1)) := (blk_cell BK465.out 1).trans rfl
                have hcz25_2 : w19.cell? ⟨gb465, 2, none⟩ = some (.int .i64 ((rd_T38 t458 x4_1).f2)) := (blk_cell BK465.out 2).trans rfl
                have hcz25_3 : w19.cell? ⟨gb465, 3, none⟩ = some (.int .i64 ((rd_T38 t458 x4_1).f3)) := (blk_cell BK465.out 3).trans rfl
                have hfz25_0 := blk_frozen BK465.out 0
                have hfz25_1 := blk_frozen BK465.out 1
                have hfz25_2 := blk_frozen BK465.out 2
                have hfz25_3 := blk_frozen BK465.out 3
                go_wp2
                go_meet
                case rel => exact ⟨_, (true), (by first | rfl | (simp; done) | (simp [*]; done)), H', ⟨by have := HK1.out; first | omega | exact Nat.le_refl _⟩, ⟨by (with_reducible repeat (first | apply Kd.V_alloc | apply Kd.V_drewN | apply Kd.V_drew)); exact HO_457000.out⟩, ⟨by (with_reducible repeat (first | apply Kd.V_alloc | apply Kd.V_drewN | apply Kd.V_drew)); exact HO_457001.out⟩, ⟨by (with_reducible repeat (first | refine blk_drewN ?_ _ | refine blk_drew ?_ | refine blk_alloc ?_ _)); exact BK456.out⟩, ⟨by (with_reducible repeat (first | refine blk_drewN ?_ _ | refine blk_drew ?_ | refine blk_alloc ?_ _)); exact BK465.out⟩, ⟨by repeat (first | (with_reducible first | exact HB.out | apply below_alloc | apply pw_below_drewN | apply below_drew1 | refine below_set ?_ GE456.out | refine below_set ?_ GE465.out) | exact HB.out)⟩⟩
              · rw [if_neg c23] at H
                have c23b0 : decide (3 < ((rd_T38 t458 x4_1).f3)) = false := decide_eq_false c23
                clear c23
                by_cases c26 : t466 < 0
                · rw [if_pos c26] at H
                  have c26b0 : decide (t466 < 0) = true := decide_eq_true c26
                  clear c26
                  have H' := Aside0.mk H
                  clear H
                  have hnb27 := NB465_456.out
                  have hnc27 := NB456_465.out
                  have hcz28_0 : w19.cell? ⟨gb465, 0, none⟩ = some (.int .i64 ((rd_T38 t458 x4_1).f0)) := (blk_cell BK465.out 0).trans rfl
                  have hcz28_1 : w19.cell? ⟨gb465, 1, none⟩ = some (.int .i64 ((rd_T38 t458 x4_1).f1)) := (blk_cell BK465.out 1).trans rfl
                  have hcz28_2 : w19.cell? ⟨gb465, 2, none⟩ = some (.int .i64 ((rd_T38 t458 x4_1).f2)) := (blk_cell BK465.out 2).trans rfl
                  have hcz28_3 : w19.cell? ⟨gb465, 3, none⟩ = some (.int .i64 ((rd_T38 t458 x4_1).f3)) := (blk_cell BK465.out 3).trans rfl
                  have hfz28_0 := blk_frozen BK465.out 0
                  have hfz28_1 := blk_frozen BK465.out 1
                  have hfz28_2 := blk_frozen BK465.out 2
                  have hfz28_3 := blk_frozen BK465.out 3
                  go_wp2
                  go_meet
                  case rel => exact ⟨_, (true), (by first | rfl | (simp; done) | (simp [*]; done)), H', ⟨by have := HK1.out; first | omega | exact Nat.le_refl _⟩, ⟨by (with_reducible repeat (first | apply Kd.V_alloc | apply Kd.V_drewN | apply Kd.V_drew)); exact HO_457000.out⟩, ⟨by (with_reducible repeat (first | apply Kd.V_alloc | apply Kd.V_drewN | apply Kd.V_drew)); exact HO_457001.out⟩, ⟨by (with_reducible repeat (first | refine blk_drewN ?_ _ | refine blk_drew ?_ | refine blk_alloc ?_ _)); exact BK456.out⟩, ⟨by (with_reducible repeat (first | refine blk_drewN ?_ _ | refine blk_drew ?_ | refine blk_alloc ?_ _)); exact BK465.out⟩, ⟨by repeat (first | (with_reducible first | exact HB.out | apply below_alloc | apply pw_below_drewN | apply below_drew1 | refine below_set ?_ GE456.out | refine below_set ?_ GE465.out) | exact HB.out)⟩⟩
                · rw [if_neg c26] at H
                  have c26b0 : decide (t466 < 0) = false := decide_eq_false c26
                  clear c26
                  have H' := Aside0.mk H
                  clear H
                  have hnb29 := NB465_456.out
                  have hnc29 := NB456_465.out
                  have hcz30_0 : w19.cell? ⟨gb465, 0, none⟩ = some (.int .i64 ((rd_T38 t458 x4_1).f0)) := (blk_cell BK465.out 0).trans rfl
                  have hcz30_1 : w19.cell? ⟨gb465, 1, none⟩ = some (.int .i64 ((rd_T38 t458 x4_1).f1)) := (blk_cell BK465.out 1).trans rfl
                  have hcz30_2 : w19.cell? ⟨gb465, 2, none⟩ = some (.int .i64 ((rd_T38 t458 x4_1).f2)) := (blk_cell BK465.out 2).trans rfl
                  have hcz30_3 : w19.cell? ⟨gb465, 3, none⟩ = some (.int .i64 ((rd_T38 t458 x4_1).f3)) := (blk_cell BK465.out 3).trans rfl
                  have hfz30_0 := blk_frozen BK465.out 0
                  have hfz30_1 := blk_frozen BK465.out 1
                  have hfz30_2 := blk_frozen BK465.out 2
                  have hfz30_3 := blk_frozen BK465.out 3
                  go_wp2
                  go_meet
                  case rel => exact ⟨_, (decide (t466 > 3)), (by first | rfl | (simp; done) | (simp [*]; done)), H', ⟨by have := HK1.out; first | omega | exact Nat.le_refl _⟩, ⟨by (with_reducible repeat (first | apply Kd.V_alloc | apply Kd.V_drewN | apply Kd.V_drew)); exact HO_457000.out⟩, ⟨by (with_reducible repeat (first | apply Kd.V_alloc | apply Kd.V_drewN | apply Kd.V_drew)); exact HO_457001.out⟩, ⟨by (with_reducible repeat (first | refine blk_drewN ?_ _ | refine blk_drew ?_ | refine blk_alloc ?_ _)); exact BK456.out⟩, ⟨by (with_reducible repeat (first | refine blk_drewN ?_ _ | refine blk_drew ?_ | refine blk_alloc ?_ _)); exact BK465.out⟩, ⟨by repeat (first | (with_reducible first | exact HB.out | apply below_alloc | apply pw_below_drewN | apply below_drew1 | refine below_set ?_ GE456.out | refine below_set ?_ GE465.out) | exact HB.out)⟩⟩
          case rest =>
            clear HC14
            try clear c1
            try clear c2
            try clear p2
            try clear p4
            try clear q4
            try clear hx4
            try clear c8
            try clear c9
            try clear c11
            try clear c11b0
            try clear c12
            try clear c12b0
            try clear c17
            try clear c20
            try clear c20b0
            try clear c21
            try clear c23
            try clear c23b0
            try clear c24
            try clear c26
            try clear c26b0
            try clear c27
            try clear c28
            try clear c29
            try clear hcz15_0
            try clear hcz15_1
            try clear hcz18_0
            try clear hcz18_1
            try clear hcz18_2
            try clear hcz18_3
            try clear hcz22_0
            try clear hcz22_1
            try clear hcz22_2
            try clear hcz22_3
            try clear hcz25_0
            try clear hcz25_1
            try clear hcz25_2
            try clear hcz25_3
            try clear hcz28_0
            try clear hcz28_1
            try clear hcz28_2
            try clear hcz28_3
            try clear hcz30_0
            try clear hcz30_1
            try clear hcz30_2
            try clear hcz30_3
            try clear hcz6_0
            try clear hcz6_1
            try clear hcz9_0
            try clear hcz9_1
            try clear hfz15_0
            try clear hfz15_1
            try clear hfz18_0
            try clear hfz18_1
            try clear hfz18_2
            try clear hfz18_3
            try clear hfz22_0
            try clear hfz22_1
            try clear hfz22_2
            try clear hfz22_3
            try clear hfz25_0
            try clear hfz25_1
            try clear hfz25_2
            try clear hfz25_3
            try clear hfz28_0
            try clear hfz28_1
            try clear hfz28_2
            try clear hfz28_3
            try clear hfz30_0
            try clear hfz30_1
            try clear hfz30_2
            try clear hfz30_3
            try clear hfz6_0
            try clear hfz6_1
            try clear hfz9_0
            try clear hfz9_1
            try clear hx464_0
            try clear hx464_1
            try clear hx464_2
            try clear hx464_3
            try clear p2
            try clear p464
            try clear q464
            obtain ⟨kq, x41_13, rfl, HA, HJ13, HO_457000, HO_457001, BK456, BK465, HB⟩ := hcut
            cases kq with
            | zero => exact absurd HA.out (by simp [meanderlaw08_GraphDepths.j1])
            | succ kj13 =>
              have H := HA.out
              clear HA
              simp only [meanderlaw08_GraphDepths.j1] at H
              by_cases c31 : x41_13 = true
              · subst c31
                have H1 : (meanderlaw08_GraphDepths.l0 kj13 t457 (wrap64 (x4_1 + 1)) t458 t461) = some r := by rw [if_pos rfl] at H; exact H
                clear H
                have H := H1
                clear H1
                have H' := Aside0.mk H
                clear H
                go_wp2
                go_roundg kj13
                case measure => have := HK1.out; have := HJ13.out; omega
                case rel => exact ⟨(wrap64 (x4_1 + 1)), (by first | rfl | (simp; done) | (simp [*]; done)), H', ⟨by have := HK1.out; have := HJ13.out; omega⟩, ⟨by (with_reducible repeat (first | apply Kd.V_alloc | apply Kd.V_drewN | apply Kd.V_drew)); exact Kd.V_mono HO_457000.out (fun _ hk => hk.1)⟩, ⟨by (with_reducible repeat (first | apply Kd.V_alloc | apply Kd.V_drewN | apply Kd.V_drew)); exact Kd.V_mono HO_457001.out (fun _ hk => hk.1)⟩, ⟨by (with_reducible repeat (first | refine blk_drewN ?_ _ | refine blk_drew ?_ | refine blk_alloc ?_ _)); exact BK456.out⟩, ⟨by repeat (first | (with_reducible first | exact HB.out | apply below_alloc | apply pw_below_drewN | apply below_drew1 | refine below_set ?_ GE456.out | refine below_set ?_ GE465.out) | exact HB.out)⟩⟩
              · replace c31 := Bool.eq_false_iff.mpr c31
                subst c31
                have H1 : ((graph_Inner.f ((rd_T38 t458 x4_1).f0) ((rd_T38 t458 x4_1).f1) ((rd_T38 t458 x4_1).f2) ((rd_T38 t458 x4_1).f3)).bind fun bt467 => ((graph_Ins.f ((rd_T38 t458 x4_1).f0)).bind fun t475 => (if t475 > 0 then ((graph_HasOut.f ((rd_T38 t458 x4_1).f0)).bind fun t476 => (if t476 = true then (if bt467.1 = t466 then (meanderlaw08_GraphDepths.j2 kj13 t457 x4_1 t466 (bt467.2.1 != ((rd_T38 t458 x4_1).f3)) t458 t461 ((rd_T38 t458 x4_1).f0) ((rd_T38 t458 x4_1).f1) ((rd_T38 t458 x4_1).f2) ((rd_T38 t458 x4_1).f3)) else (meanderlaw08_GraphDepths.j2 kj13 t457 x4_1 t466 true t458 t461 ((rd_T38 t458 x4_1).f0) ((rd_T38 t458 x4_1).f1) ((rd_T38 t458 x4_1).f2) ((rd_T38 t458 x4_1).f3))) else (meanderlaw08_GraphDepths.j2 kj13 t457 x4_1 t466 false t458 t461 ((rd_T38 t458 x4_1).f0) ((rd_T38 t458 x4_1).f1) ((rd_T38 t458 x4_1).f2) ((rd_T38 t458 x4_1).f3)))) else (meanderlaw08_GraphDepths.j2 kj13 t457 x4_1 t466 false t458 t461 ((rd_T38 t458 x4_1).f0) ((rd_T38 t458 x4_1).f1) ((rd_T38 t458 x4_1).f2) ((rd_T38 t458 x4_1).f3))))) = some r := by rw [if_neg (show ¬ (false = true) by decide)] at H; exact H
                clear H
                have H := H1
                clear H1
                replace H := Option.bind_eq_some_iff.mp H
                obtain ⟨⟨t467, t468, t469, t470, t471, t472, t473⟩, A320, H⟩ := H
                replace H : ((graph_Ins.f ((rd_T38 t458 x4_1).f0)).bind fun t475 => (if t475 > 0 then ((graph_HasOut.f ((rd_T38 t458 x4_1).f0)).bind fun t476 => (if t476 = true then (if t467 = t466 then (meanderlaw08_GraphDepths.j2 kj13 t457 x4_1 t466 (t468 != ((rd_T38 t458 x4_1).f3)) t458 t461 ((rd_T38 t458 x4_1).f0) ((rd_T38 t458 x4_1).f1) ((rd_T38 t458 x4_1).f2) ((rd_T38 t458 x4_1).f3)) else (meanderlaw08_GraphDepths.j2 kj13 t457 x4_1 t466 true t458 t461 ((rd_T38 t458 x4_1).f0) ((rd_T38 t458 x4_1).f1) ((rd_T38 t458 x4_1).f2) ((rd_T38 t458 x4_1).f3))) else (meanderlaw08_GraphDepths.j2 kj13 t457 x4_1 t466 false t458 t461 ((rd_T38 t458 x4_1).f0) ((rd_T38 t458 x4_1).f1) ((rd_T38 t458 x4_1).f2) ((rd_T38 t458 x4_1).f3)))) else (meanderlaw08_GraphDepths.j2 kj13 t457 x4_1 t466 false t458 t461 ((rd_T38 t458 x4_1).f0) ((rd_T38 t458 x4_1).f1) ((rd_T38 t458 x4_1).f2) ((rd_T38 t458 x4_1).f3)))) = some r := H
                have A32 := Aside0.mk A320
                clear A320
                have HC33 := Aside0.mk H
                clear H
                have hnb34 := NB465_456.out
                have hnc34 := NB456_465.out
                have hcz35_0 : wc.cell? ⟨gb465, 0, none⟩ = some (.int .i64 ((rd_T38 t458 x4_1).f0)) := (blk_cell BK465.out 0).trans rfl
                have hcz35_1 : wc.cell? ⟨gb465, 1, none⟩ = some (.int .i64 ((rd_T38 t458 x4_1).f1)) := (blk_cell BK465.out 1).trans rfl
                have hcz35_2 : wc.cell? ⟨gb465, 2, none⟩ = some (.int .i64 ((rd_T38 t458 x4_1).f2)) := (blk_cell BK465.out 2).trans rfl
                have hcz35_3 : wc.cell? ⟨gb465, 3, none⟩ = some (.int .i64 ((rd_T38 t458 x4_1).f3)) := (blk_cell BK465.out 3).trans rfl
                have hfz35_0 := blk_frozen BK465.out 0
                have hfz35_1 := blk_frozen BK465.out 1
                have hfz35_2 := blk_frozen BK465.out 2
                have hfz35_3 := blk_frozen BK465.out 3
                go_upto_region 10 with (first | ((with_reducible refine gate_callee (f := 30) rfl ?_); refine goesL_ (some 43) rfl rfl Try.func30 (by kernel_rfl) rfl #[.agg #[.int .i64 ((rd_T38 t458 x4_1).f0), .int .i64 ((rd_T38 t458 x4_1).f1), .int .i64 ((rd_T38 t458 x4_1).f2), .int .i64 ((rd_T38 t458 x4_1).f3)]] rfl (by (try simp only [List.map_toArray, List.map_cons, List.map_nil]); first | done | rfl | (simp only [List.length_drop, List.length_take]; rfl)) ?_; (with_reducible refine (graph_Inner.calls ((rd_T38 t458 x4_1).f0) ((rd_T38 t458 x4_1).f1) ((rd_T38 t458 x4_1).f2) ((rd_T38 t458 x4_1).f3) t467 t468 t469 t470 t471 t472 t473 _ A32.out).mono ?_); rintro e w36 ⟨rfl, hb⟩; refine ⟨_, rfl, ?_⟩; have n0_ := Aside0.mk (Kd.V_below (by (with_reducible repeat (first | apply Kd.V_alloc | apply Kd.V_drewN | apply Kd.V_drew)); exact HO_457000.out) hb); have n1_ := Aside0.mk (Kd.V_below (by (with_reducible repeat (first | apply Kd.V_alloc | apply Kd.V_drewN | apply Kd.V_drew)); exact HO_457001.out) hb); have n2_ := Aside0.mk (blk_below (g := gb456) (o := .cells #[.slice (some ad464) t458.length co8, .slice Ao10 t461.length co10] 30 (0, 0)) (by (with_reducible repeat (first | refine blk_drewN ?_ _ | refine blk_drew ?_ | refine blk_alloc ?_ _)); exact BK456.out) hb); have n3_ := Aside0.mk (blk_below (g := gb465) (o := .cells #[.int .i64 ((rd_T38 t458 x4_1).f0), .int .i64 ((rd_T38 t458 x4_1).f1), .int .i64 ((rd_T38 t458 x4_1).f2), .int .i64 ((rd_T38 t458 x4_1).f3)] 38 (0, 0)) (by (with_reducible repeat (first | refine blk_drewN ?_ _ | refine blk_drew ?_ | refine blk_alloc ?_ _)); exact BK465.out) hb); have n4_ := Aside0.mk (below_step (by repeat (first | (with_reducible first | exact HB.out | apply below_alloc | apply pw_below_drewN | apply below_drew1 | refine below_set ?_ GE456.out | refine below_set ?_ GE465.out) | exact HB.out)) hb); clear HO_457000; clear HO_457001; clear BK456; clear BK465; clear HB; have HO_457000 := n0_; have HO_457001 := n1_; have BK456 := n2_; have BK465 := n3_; have HB := n4_; clear n0_ n1_ n2_ n3_ n4_; (try clear hb); (try clear hb2); (try clear hk); (try clear hi)) | ((with_reducible refine gate_dst (N := 7) rfl ?_); refine box_event ?hg (N := 7) ?hd (cs := #[.int .i64 0, .int .i64 0, .int .i64 0, .int .i64 0, .int .i64 0, .int .i64 0, .int .i64 0]) (t := 51) ?hr ?_; (case hd => rfl); (case hg => rfl); (case hr => first | (go_simp; done) | (go_simp; rfl)); intro gb474 hg w37 hbox hb; have n0_ := Aside0.mk (Kd.V_below (Kd.V_elderB (by (with_reducible repeat (first | apply Kd.V_alloc | apply Kd.V_drewN | apply Kd.V_drew)); exact HO_457000.out) gb474 (Nat.le_of_eq hg.symm)) hb); have n1_ := Aside0.mk (Kd.V_below (Kd.V_elderB (by (with_reducible repeat (first | apply Kd.V_alloc | apply Kd.V_drewN | apply Kd.V_drew)); exact HO_457001.out) gb474 (Nat.le_of_eq hg.symm)) hb); have n2_ := Aside0.mk (blk_below (g := gb456) (o := .cells #[.slice (some ad464) t458.length co8, .slice Ao10 t461.length co10] 30 (0, 0)) (by (with_reducible repeat (first | refine blk_drewN ?_ _ | refine blk_drew ?_ | refine blk_alloc ?_ _)); exact BK456.out) hb); have n3_ := Aside0.mk (blk_below (g := gb465) (o := .cells #[.int .i64 ((rd_T38 t458 x4_1).f0), .int .i64 ((rd_T38 t458 x4_1).f1), .int .i64 ((rd_T38 t458 x4_1).f2), .int .i64 ((rd_T38 t458 x4_1).f3)] 38 (0, 0)) (by (with_reducible repeat (first | refine blk_drewN ?_ _ | refine blk_drew ?_ | refine blk_alloc ?_ _)); exact BK465.out) hb); have n4_ := Aside0.mk (below_step (by repeat (first | (with_reducible first | exact HB.out | apply below_alloc | apply pw_below_drewN | apply below_drew1 | refine below_set ?_ GE456.out | refine below_set ?_ GE465.out) | exact HB.out)) hb); have n5_ := Aside0.mk (hbox); have n6_ := Aside0.mk ((by rw [hg]; exact (below_size (by repeat (first | (with_reducible first | exact HB.out | apply below_alloc | apply pw_below_drewN | apply below_drew1 | refine below_set ?_ GE456.out | refine below_set ?_ GE465.out) | exact HB.out))) : w.heap.size ≤ gb474)); have n7_ := Aside0.mk ((by rw [hg]; exact (below_size (by repeat (first | (with_reducible first | exact HB.out | apply below_alloc | apply pw_below_drewN | apply below_drew1 | refine below_set ?_ GE456.out | refine below_set ?_ GE465.out) | exact HB.out))) : w.heap.size ≤ gb474)); have n8_ := Aside0.mk ((by rw [hg]; exact Nat.ne_of_lt (blk_lt (g := gb456) (o := .cells #[.slice (some ad464) t458.length co8, .slice Ao10 t461.length co10] 30 (0, 0)) (by (with_reducible repeat (first | refine blk_drewN ?_ _ | refine blk_drew ?_ | refine blk_alloc ?_ _)); exact BK456.out)) : gb456 ≠ gb474)); have n9_ := Aside0.mk ((by rw [hg]; exact Nat.ne_of_gt (blk_lt (g := gb456) (o := .cells #[.slice (some ad464) t458.length co8, .slice Ao10 t461.length co10] 30 (0, 0)) (by (with_reducible repeat (first | refine blk_drewN ?_ _ | refine blk_drew ?_ | refine blk_alloc ?_ _)); exact BK456.out)) : gb474 ≠ gb456)); have n10_ := Aside0.mk ((by rw [hg]; exact Nat.ne_of_lt (blk_lt (g := gb465) (o := .cells #[.int .i64 ((rd_T38 t458 x4_1).f0), .int .i64 ((rd_T38 t458 x4_1).f1), .int .i64 ((rd_T38 t458 x4_1).f2), .int .i64 ((rd_T38 t458 x4_1).f3)] 38 (0, 0)) (by (with_reducible repeat (first | refine blk_drewN ?_ _ | refine blk_drew ?_ | refine blk_alloc ?_ _)); exact BK465.out)) : gb465 ≠ gb474)); have n11_ := Aside0.mk ((by rw [hg]; exact Nat.ne_of_gt (blk_lt (g := gb465) (o := .cells #[.int .i64 ((rd_T38 t458 x4_1).f0), .int .i64 ((rd_T38 t458 x4_1).f1), .int .i64 ((rd_T38 t458 x4_1).f2), .int .i64 ((rd_T38 t458 x4_1).f3)] 38 (0, 0)) (by (with_reducible repeat (first | refine blk_drewN ?_ _ | refine blk_drew ?_ | refine blk_alloc ?_ _)); exact BK465.out)) : gb474 ≠ gb465)); clear HO_457000; clear HO_457001; clear BK456; clear BK465; clear HB; have HO_457000 := n0_; have HO_457001 := n1_; have BK456 := n2_; have BK465 := n3_; have HB := n4_; have BK474 := n5_; have GW474 := n6_; have GE474 := n7_; have NB456_474 := n8_; have NB474_456 := n9_; have NB465_474 := n10_; have NB474_465 := n11_; clear n0_ n1_ n2_ n3_ n4_ n5_ n6_ n7_ n8_ n9_ n10_ n11_; clear hb hbox hg; have hnb38 := NB474_456.out; have hnc38 := NB456_474.out; have hnb39 := NB474_465.out; have hnc39 := NB465_474.out; have hcz40_0 : w37.cell? ⟨gb474, 0, none⟩ = some (.int .i64 0) := (blk_cell BK474.out 0).trans rfl; have hcz40_1 : w37.cell? ⟨gb474, 1, none⟩ = some (.int .i64 0) := (blk_cell BK474.out 1).trans rfl; have hcz40_2 : w37.cell? ⟨gb474, 2, none⟩ = some (.int .i64 0) := (blk_cell BK474.out 2).trans rfl; have hcz40_3 : w37.cell? ⟨gb474, 3, none⟩ = some (.int .i64 0) := (blk_cell BK474.out 3).trans rfl; have hcz40_4 : w37.cell? ⟨gb474, 4, none⟩ = some (.int .i64 0) := (blk_cell BK474.out 4).trans rfl; have hcz40_5 : w37.cell? ⟨gb474, 5, none⟩ = some (.int .i64 0) := (blk_cell BK474.out 5).trans rfl; have hcz40_6 : w37.cell? ⟨gb474, 6, none⟩ = some (.int .i64 0) := (blk_cell BK474.out 6).trans rfl; have hfz40_0 := blk_frozen BK474.out 0; have hfz40_1 := blk_frozen BK474.out 1; have hfz40_2 := blk_frozen BK474.out 2; have hfz40_3 := blk_frozen BK474.out 3; have hfz40_4 := blk_frozen BK474.out 4; have hfz40_5 := blk_frozen BK474.out 5; have hfz40_6 := blk_frozen BK474.out 6))
                (try simp only [Act.put, List.setIfInBounds_toArray, List.set_cons_zero, List.set_cons_succ])
                go_cut [65] (fun v65 wc => ∃ (kq : Nat) (x65_32 : Bool), v65 = .bool x65_32 ∧ Aside0 (meanderlaw08_GraphDepths.j2 kq t457 x4_1 t466 x65_32 t458 t461 ((rd_T38 t458 x4_1).f0) ((rd_T38 t458 x4_1).f1) ((rd_T38 t458 x4_1).f2) ((rd_T38 t458 x4_1).f3) = some r) ∧ Aside0 (kq ≤ kj13) ∧ Aside0 (Kd.V k38 38 wc w.heap.size (fun k_ => k_ ≠ gb456 ∧ k_ ≠ gb465 ∧ k_ ≠ gb474) (.slice (some ad464) t458.length co8) t458) ∧ Aside0 (Kd.V k35 35 wc w.heap.size (fun k_ => k_ ≠ gb456 ∧ k_ ≠ gb465 ∧ k_ ≠ gb474) (.slice Ao10 t461.length co10) t461) ∧ Aside0 (wc.heap[gb456]? = some (.cells #[(.slice (some ad464) t458.length co8), (.slice Ao10 t461.length co10)] 30 (0, 0))) ∧ Aside0 (wc.heap[gb465]? = some (.cells #[.int .i64 ((rd_T38 t458 x4_1).f0), .int .i64 ((rd_T38 t458 x4_1).f1), .int .i64 ((rd_T38 t458 x4_1).f2), .int .i64 ((rd_T38 t458 x4_1).f3)] 38 (0, 0))) ∧ Aside0 (wc.heap[gb474]? = some (.cells #[.int .i64 t467, .int .i64 t468, .int .i64 t469, .int .i64 t470, .int .i64 t471, .int .i64 t472, .int .i64 t473] 51 (0, 0))) ∧ Aside0 (Below w.heap.size w wc))
                case first =>
                  have H := HC33.out
                  clear HC33
                  replace H := Option.bind_eq_some_iff.mp H
                  obtain ⟨t475, A410, H⟩ := H
                  replace H : (if t475 > 0 then ((graph_HasOut.f ((rd_T38 t458 x4_1).f0)).bind fun t476 => (if t476 = true then (if t467 = t466 then (meanderlaw08_GraphDepths.j2 kj13 t457 x4_1 t466 (t468 != ((rd_T38 t458 x4_1).f3)) t458 t461 ((rd_T38 t458 x4_1).f0) ((rd_T38 t458 x4_1).f1) ((rd_T38 t458 x4_1).f2) ((rd_T38 t458 x4_1).f3)) else (meanderlaw08_GraphDepths.j2 kj13 t457 x4_1 t466 true t458 t461 ((rd_T38 t458 x4_1).f0) ((rd_T38 t458 x4_1).f1) ((rd_T38 t458 x4_1).f2) ((rd_T38 t458 x4_1).f3))) else (meanderlaw08_GraphDepths.j2 kj13 t457 x4_1 t466 false t458 t461 ((rd_T38 t458 x4_1).f0) ((rd_T38 t458 x4_1).f1) ((rd_T38 t458 x4_1).f2) ((rd_T38 t458 x4_1).f3)))) else (meanderlaw08_GraphDepths.j2 kj13 t457 x4_1 t466 false t458 t461 ((rd_T38 t458 x4_1).f0) ((rd_T38 t458 x4_1).f1) ((rd_T38 t458 x4_1).f2) ((rd_T38 t458 x4_1).f3))) = some r := H
                  have A41 := Aside0.mk A410
                  clear A410
                  by_cases c42 : t475 > 0
                  · rw [if_pos c42] at H
                    have c42b0 : decide (0 < t475) = true := decide_eq_true c42
                    clear c42
                    (first | rw [c42b0] | (simp only [i64_w, i32_w]; rw [c42b0]) | skip)
                    replace H := Option.bind_eq_some_iff.mp H
                    obtain ⟨t476, A430, H⟩ := H
                    replace H : (if t476 = true then (if t467 = t466 then (meanderlaw08_GraphDepths.j2 kj13 t457 x4_1 t466 (t468 != ((rd_T38 t458 x4_1).f3)) t458 t461 ((rd_T38 t458 x4_1).f0) ((rd_T38 t458 x4_1).f1) ((rd_T38 t458 x4_1).f2) ((rd_T38 t458 x4_1).f3)) else (meanderlaw08_GraphDepths.j2 kj13 t457 x4_1 t466 true t458 t461 ((rd_T38 t458 x4_1).f0) ((rd_T38 t458 x4_1).f1) ((rd_T38 t458 x4_1).f2) ((rd_T38 t458 x4_1).f3))) else (meanderlaw08_GraphDepths.j2 kj13 t457 x4_1 t466 false t458 t461 ((rd_T38 t458 x4_1).f0) ((rd_T38 t458 x4_1).f1) ((rd_T38 t458 x4_1).f2) ((rd_T38 t458 x4_1).f3))) = some r := H
                    have A43 := Aside0.mk A430
                    clear A430
                    by_cases c44 : t476 = true
                    · subst c44
                      have H1 : (if t467 = t466 then (meanderlaw08_GraphDepths.j2 kj13 t457 x4_1 t466 (t468 != ((rd_T38 t458 x4_1).f3)) t458 t461 ((rd_T38 t458 x4_1).f0) ((rd_T38 t458 x4_1).f1) ((rd_T38 t458 x4_1).f2) ((rd_T38 t458 x4_1).f3)) else (meanderlaw08_GraphDepths.j2 kj13 t457 x4_1 t466 true t458 t461 ((rd_T38 t458 x4_1).f0) ((rd_T38 t458 x4_1).f1) ((rd_T38 t458 x4_1).f2) ((rd_T38 t458 x4_1).f3))) = some r := by rw [if_pos rfl] at H; exact H
                      clear H
                      have H := H1
                      clear H1
                      by_cases c45 : t467 = t466
                      · rw [if_pos c45] at H
                        have c45b0 : (t467 == t466) = true := beq_iff_eq.mpr c45
                        have c45b1 : (t467 != t466) = false := bne_eq_false_iff_eq.mpr c45
                        clear c45
                        have H' := Aside0.mk H
                        clear H
                        have hnb46 := NB465_456.out
                        have hnc46 := NB456_465.out
                        have hnb47 := NB465_474.out
                        have hnc47 := NB474_465.out
                        have hcz48_0 : w37.cell? ⟨gb465, 0, none⟩ = some (.int .i64 ((rd_T38 t458 x4_1).f0)) := (blk_cell BK465.out 0).trans rfl
                        have hcz48_1 : w37.cell? ⟨gb465, 1, none⟩ = some (.int .i64 ((rd_T38 t458 x4_1).f1)) := (blk_cell BK465.out 1).trans rfl
                        have hcz48_2 : w37.cell? ⟨gb465, 2, none⟩ = some (.int .i64 ((rd_T38 t458 x4_1).f2)) := (blk_cell BK465.out 2).trans rfl
                        have hcz48_3 : w37.cell? ⟨gb465, 3, none⟩ = some (.int .i64 ((rd_T38 t458 x4_1).f3)) := (blk_cell BK465.out 3).trans rfl
                        have hfz48_0 := blk_frozen BK465.out 0
                        have hfz48_1 := blk_frozen BK465.out 1
                        have hfz48_2 := blk_frozen BK465.out 2
                        have hfz48_3 := blk_frozen BK465.out 3
                        go_wp2_with (first | ((with_reducible refine gate_callee (f := 24) rfl ?_); refine goesL_ (some 46) rfl rfl Try.func24 (by kernel_rfl) rfl #[.int .i64 ((rd_T38 t458 x4_1).f0)] rfl (by (try simp only [List.map_toArray, List.map_cons, List.map_nil]); first | done | rfl | (simp only [List.length_drop, List.length_take]; rfl)) ?_; (with_reducible refine (graph_Ins.calls ((rd_T38 t458 x4_1).f0) t475 _ A41.out).mono ?_); rintro e w' ⟨rfl, ⟨nd, rfl⟩⟩; refine ⟨_, rfl, ?_⟩) | (go_at_call 25; (with_reducible refine (graph_HasOut.calls ((rd_T38 t458 x4_1).f0) true _ A43.out).mono ?_); rintro e w' ⟨rfl, ⟨nd, rfl⟩⟩; have hnb49 := NB474_456.out; have hnc49 := NB456_474.out; have hcz50_0 : w37.cell? ⟨gb474, 0, none⟩ = some (.int .i64 0) := (blk_cell BK474.out 0).trans rfl; have hcz50_1 : w37.cell? ⟨gb474, 1, none⟩ = some (.int .i64 0) := (blk_cell BK474.out 1).trans rfl; have hcz50_2 : w37.cell? ⟨gb474, 2, none⟩ = some (.int .i64 0) := (blk_cell BK474.out 2).trans rfl; have hcz50_3 : w37.cell? ⟨gb474, 3, none⟩ = some (.int .i64 0) := (blk_cell BK474.out 3).trans rfl; have hcz50_4 : w37.cell? ⟨gb474, 4, none⟩ = some (.int .i64 0) := (blk_cell BK474.out 4).trans rfl; have hcz50_5 : w37.cell? ⟨gb474, 5, none⟩ = some (.int .i64 0) := (blk_cell BK474.out 5).trans rfl; have hcz50_6 : w37.cell? ⟨gb474, 6, none⟩ = some (.int .i64 0) := (blk_cell BK474.out 6).trans rfl; have hfz50_0 := blk_frozen BK474.out 0; have hfz50_1 := blk_frozen BK474.out 1; have hfz50_2 := blk_frozen BK474.out 2; have hfz50_3 := blk_frozen BK474.out 3; have hfz50_4 := blk_frozen BK474.out 4; have hfz50_5 := blk_frozen BK474.out 5; have hfz50_6 := blk_frozen BK474.out 6))
                        go_meet
                        case rel => exact ⟨_, ((t468 != ((rd_T38 t458 x4_1).f3))), (by first | rfl | (simp; done) | (simp [*]; done)), H', ⟨by have := HK1.out; have := HJ13.out; first | omega | exact Nat.le_refl _⟩, ⟨by (with_reducible repeat (first | apply Kd.V_alloc | apply Kd.V_drewN | apply Kd.V_drew)); exact Kd.V_mono (Kd.V_far (p := ⟨gb474, 6, none⟩) (Kd.V_far (p := ⟨gb474, 5, none⟩) (Kd.V_far (p := ⟨gb474, 4, none⟩) (Kd.V_far (p := ⟨gb474, 3, none⟩) (Kd.V_far (p := ⟨gb474, 2, none⟩) (Kd.V_far (p := ⟨gb474, 1, none⟩) (Kd.V_far (p := ⟨gb474, 0, none⟩) (Kd.V_mono HO_457000.out (fun k_ hk => (⟨hk, hk.2⟩ : _ ∧ k_ ≠ gb474))) (fun _ hk => hk.2) (.int .i64 t467)) (fun _ hk => hk.2) (.int .i64 t468)) (fun _ hk => hk.2) (.int .i64 t469)) (fun _ hk => hk.2) (.int .i64 t470)) (fun _ hk => hk.2) (.int .i64 t471)) (fun _ hk => hk.2) (.int .i64 t472)) (fun _ hk => hk.2) (.int .i64 t473)) (fun _ hk => ⟨hk.1.1.1, ⟨hk.1.1.2, hk.1.2⟩⟩)⟩, ⟨by (with_reducible repeat (first | apply Kd.V_alloc | apply Kd.V_drewN | apply Kd.V_drew)); exact Kd.V_mono (Kd.V_far (p := ⟨gb474, 6, none⟩) (Kd.V_far (p := ⟨gb474, 5, none⟩) (Kd.V_far (p := ⟨gb474, 4, none⟩) (Kd.V_far (p := ⟨gb474, 3, none⟩) (Kd.V_far (p := ⟨gb474, 2, none⟩) (Kd.V_far (p := ⟨gb474, 1, none⟩) (Kd.V_far (p := ⟨gb474, 0, none⟩) (Kd.V_mono HO_457001.out (fun k_ hk => (⟨hk, hk.2⟩ : _ ∧ k_ ≠ gb474))) (fun _ hk => hk.2) (.int .i64 t467)) (fun _ hk => hk.2) (.int .i64 t468)) (fun _ hk => hk.2) (.int .i64 t469)) (fun _ hk => hk.2) (.int .i64 t470)) (fun _ hk => hk.2) (.int .i64 t471)) (fun _ hk => hk.2) (.int .i64 t472)) (fun _ hk => hk.2) (.int .i64 t473)) (fun _ hk => ⟨hk.1.1.1, ⟨hk.1.1.2, hk.1.2⟩⟩)⟩, ⟨by (with_reducible repeat (first | refine blk_drewN ?_ _ | refine blk_drew ?_ | refine blk_alloc ?_ _)); refine blk_far ?_ NB456_474.out _; (with_reducible repeat (first | refine blk_drewN ?_ _ | refine blk_drew ?_ | refine blk_alloc ?_ _)); refine blk_far ?_ NB456_474.out _; (with_reducible repeat (first | refine blk_drewN ?_ _ | refine blk_drew ?_ | refine blk_alloc ?_ _)); refine blk_far ?_ NB456_474.out _; (with_reducible repeat (first | refine blk_drewN ?_ _ | refine blk_drew ?_ | refine blk_alloc ?_ _)); refine blk_far ?_ NB456_474.out _; (with_reducible repeat (first | refine blk_drewN ?_ _ | refine blk_drew ?_ | refine blk_alloc ?_ _)); refine blk_far ?_ NB456_474.out _; (with_reducible repeat (first | refine blk_drewN ?_ _ | refine blk_drew ?_ | refine blk_alloc ?_ _)); refine blk_far ?_ NB456_474.out _; (with_reducible repeat (first | refine blk_drewN ?_ _ | refine blk_drew ?_ | refine blk_alloc ?_ _)); refine blk_far ?_ NB456_474.out _; (with_reducible repeat (first | refine blk_drewN ?_ _ | refine blk_drew ?_ | refine blk_alloc ?_ _)); exact BK456.out⟩, ⟨by (with_reducible repeat (first | refine blk_drewN ?_ _ | refine blk_drew ?_ | refine blk_alloc ?_ _)); refine blk_far ?_ NB465_474.out _; (with_reducible repeat (first | refine blk_drewN ?_ _ | refine blk_drew ?_ | refine blk_alloc ?_ _)); refine blk_far ?_ NB465_474.out _; (with_reducible repeat (first | refine blk_drewN ?_ _ | refine blk_drew ?_ | refine blk_alloc ?_ _)); refine blk_far ?_ NB465_474.out _; (with_reducible repeat (first | refine blk_drewN ?_ _ | refine blk_drew ?_ | refine blk_alloc ?_ _)); refine blk_far ?_ NB465_474.out _; (with_reducible repeat (first | refine blk_drewN ?_ _ | refine blk_drew ?_ | refine blk_alloc ?_ _)); refine blk_far ?_ NB465_474.out _; (with_reducible repeat (first | refine blk_drewN ?_ _ | refine blk_drew ?_ | refine blk_alloc ?_ _)); refine blk_far ?_ NB465_474.out _; (with_reducible repeat (first | refine blk_drewN ?_ _ | refine blk_drew ?_ | refine blk_alloc ?_ _)); refine blk_far ?_ NB465_474.out _; (with_reducible repeat (first | refine blk_drewN ?_ _ | refine blk_drew ?_ | refine blk_alloc ?_ _)); exact BK465.out⟩, ⟨by (with_reducible repeat (first | refine blk_drewN ?_ _ | refine blk_drew ?_ | refine blk_alloc ?_ _)); refine blk_put (cs := #[.int .i64 t467, .int .i64 t468, .int .i64 t469, .int .i64 t470, .int .i64 t471, .int .i64 t472, .int .i64 0]) ?_ 6 _ rfl; (with_reducible repeat (first | refine blk_drewN ?_ _ | refine blk_drew ?_ | refine blk_alloc ?_ _)); refine blk_put (cs := #[.int .i64 t467, .int .i64 t468, .int .i64 t469, .int .i64 t470, .int .i64 t471, .int .i64 0, .int .i64 0]) ?_ 5 _ rfl; (with_reducible repeat (first | refine blk_drewN ?_ _ | refine blk_drew ?_ | refine blk_alloc ?_ _)); refine blk_put (cs := #[.int .i64 t467, .int .i64 t468, .int .i64 t469, .int .i64 t470, .int .i64 0, .int .i64 0, .int .i64 0]) ?_ 4 _ rfl; (with_reducible repeat (first | refine blk_drewN ?_ _ | refine blk_drew ?_ | refine blk_alloc ?_ _)); refine blk_put (cs := #[.int .i64 t467, .int .i64 t468, .int .i64 t469, .int .i64 0, .int .i64 0, .int .i64 0, .int .i64 0]) ?_ 3 _ rfl; (with_reducible repeat (first | refine blk_drewN ?_ _ | refine blk_drew ?_ | refine blk_alloc ?_ _)); refine blk_put (cs := #[.int .i64 t467, .int .i64 t468, .int .i64 0, .int .i64 0, .int .i64 0, .int .i64 0, .int .i64 0]) ?_ 2 _ rfl; (with_reducible repeat (first | refine blk_drewN ?_ _ | refine blk_drew ?_ | refine blk_alloc ?_ _)); refine blk_put (cs := #[.int .i64 t467, .int .i64 0, .int .i64 0, .int .i64 0, .int .i64 0, .int .i64 0, .int .i64 0]) ?_ 1 _ rfl; (with_reducible repeat (first | refine blk_drewN ?_ _ | refine blk_drew ?_ | refine blk_alloc ?_ _)); refine blk_put (cs := #[.int .i64 0, .int .i64 0, .int .i64 0, .int .i64 0, .int .i64 0, .int .i64 0, .int .i64 0]) ?_ 0 _ rfl; (with_reducible repeat (first | refine blk_drewN ?_ _ | refine blk_drew ?_ | refine blk_alloc ?_ _)); exact BK474.out⟩, ⟨by repeat (first | (with_reducible first | exact HB.out | apply below_alloc | apply pw_below_drewN | apply below_drew1 | refine below_set ?_ GE456.out | refine below_set ?_ GE465.out | refine below_set ?_ GE474.out) | exact HB.out)⟩⟩
                      · rw [if_neg c45] at H
                        have c45b0 : (t467 == t466) = false := beq_eq_false_iff_ne.mpr c45
                        have c45b1 : (t467 != t466) = true := bne_iff_ne.mpr c45
                        have H' := Aside0.mk H
                        clear H
                        have hnb51 := NB465_456.out
                        have hnc51 := NB456_465.out
                        have hnb52 := NB465_474.out
                        have hnc52 := NB474_465.out
                        have hcz53_0 : w37.cell? ⟨gb465, 0, none⟩ = some (.int .i64 ((rd_T38 t458 x4_1).f0)) := (blk_cell BK465.out 0).trans rfl
                        have hcz53_1 : w37.cell? ⟨gb465, 1, none⟩ = some (.int .i64 ((rd_T38 t458 x4_1).f1)) := (blk_cell BK465.out 1).trans rfl
                        have hcz53_2 : w37.cell? ⟨gb465, 2, none⟩ = some (.int .i64 ((rd_T38 t458 x4_1).f2)) := (blk_cell BK465.out 2).trans rfl
                        have hcz53_3 : w37.cell? ⟨gb465, 3, none⟩ = some (.int .i64 ((rd_T38 t458 x4_1).f3)) := (blk_cell BK465.out 3).trans rfl
                        have hfz53_0 := blk_frozen BK465.out 0
                        have hfz53_1 := blk_frozen BK465.out 1
                        have hfz53_2 := blk_frozen BK465.out 2
                        have hfz53_3 := blk_frozen BK465.out 3
                        go_wp2_with (first | ((with_reducible refine gate_callee (f := 24) rfl ?_); refine goesL_ (some 46) rfl rfl Try.func24 (by kernel_rfl) rfl #[.int .i64 ((rd_T38 t458 x4_1).f0)] rfl (by (try simp only [List.map_toArray, List.map_cons, List.map_nil]); first | done | rfl | (simp only [List.length_drop, List.length_take]; rfl)) ?_; (with_reducible refine (graph_Ins.calls ((rd_T38 t458 x4_1).f0) t475 _ A41.out).mono ?_); rintro e w' ⟨rfl, ⟨nd, rfl⟩⟩; refine ⟨_, rfl, ?_⟩) | (go_at_call 25; (with_reducible refine (graph_HasOut.calls ((rd_T38 t458 x4_1).f0) true _ A43.out).mono ?_); rintro e w' ⟨rfl, ⟨nd, rfl⟩⟩; have hnb54 := NB474_456.out; have hnc54 := NB456_474.out; have hcz55_0 : w37.cell? ⟨gb474, 0, none⟩ = some (.int .i64 0) := (blk_cell BK474.out 0).trans rfl; have hcz55_1 : w37.cell? ⟨gb474, 1, none⟩ = some (.int .i64 0) := (blk_cell BK474.out 1).trans rfl; have hcz55_2 : w37.cell? ⟨gb474, 2, none⟩ = some (.int .i64 0) := (blk_cell BK474.out 2).trans rfl; have hcz55_3 : w37.cell? ⟨gb474, 3, none⟩ = some (.int .i64 0) := (blk_cell BK474.out 3).trans rfl; have hcz55_4 : w37.cell? ⟨gb474, 4, none⟩ = some (.int .i64 0) := (blk_cell BK474.out 4).trans rfl; have hcz55_5 : w37.cell? ⟨gb474, 5, none⟩ = some (.int .i64 0) := (blk_cell BK474.out 5).trans rfl; have hcz55_6 : w37.cell? ⟨gb474, 6, none⟩ = some (.int .i64 0) := (blk_cell BK474.out 6).trans rfl; have hfz55_0 := blk_frozen BK474.out 0; have hfz55_1 := blk_frozen BK474.out 1; have hfz55_2 := blk_frozen BK474.out 2; have hfz55_3 := blk_frozen BK474.out 3; have hfz55_4 := blk_frozen BK474.out 4; have hfz55_5 := blk_frozen BK474.out 5; have hfz55_6 := blk_frozen BK474.out 6))
                        go_meet
                        case rel => exact ⟨_, (true), (by first | rfl | (simp; done) | (simp [*]; done)), H', ⟨by have := HK1.out; have := HJ13.out; first | omega | exact Nat.le_refl _⟩, ⟨by (with_reducible repeat (first | apply Kd.V_alloc | apply Kd.V_drewN | apply Kd.V_drew)); exact Kd.V_mono (Kd.V_far (p := ⟨gb474, 6, none⟩) (Kd.V_far (p := ⟨gb474, 5, none⟩) (Kd.V_far (p := ⟨gb474, 4, none⟩) (Kd.V_far (p := ⟨gb474, 3, none⟩) (Kd.V_far (p := ⟨gb474, 2, none⟩) (Kd.V_far (p := ⟨gb474, 1, none⟩) (Kd.V_far (p := ⟨gb474, 0, none⟩) (Kd.V_mono HO_457000.out (fun k_ hk => (⟨hk, hk.2⟩ : _ ∧ k_ ≠ gb474))) (fun _ hk => hk.2) (.int .i64 t467)) (fun _ hk => hk.2) (.int .i64 t468)) (fun _ hk => hk.2) (.int .i64 t469)) (fun _ hk => hk.2) (.int .i64 t470)) (fun _ hk => hk.2) (.int .i64 t471)) (fun _ hk => hk.2) (.int .i64 t472)) (fun _ hk => hk.2) (.int .i64 t473)) (fun _ hk => ⟨hk.1.1.1, ⟨hk.1.1.2, hk.1.2⟩⟩)⟩, ⟨by (with_reducible repeat (first | apply Kd.V_alloc | apply Kd.V_drewN | apply Kd.V_drew)); exact Kd.V_mono (Kd.V_far (p := ⟨gb474, 6, none⟩) (Kd.V_far (p := ⟨gb474, 5, none⟩) (Kd.V_far (p := ⟨gb474, 4, none⟩) (Kd.V_far (p := ⟨gb474, 3, none⟩) (Kd.V_far (p := ⟨gb474, 2, none⟩) (Kd.V_far (p := ⟨gb474, 1, none⟩) (Kd.V_far (p := ⟨gb474, 0, none⟩) (Kd.V_mono HO_457001.out (fun k_ hk => (⟨hk, hk.2⟩ : _ ∧ k_ ≠ gb474))) (fun _ hk => hk.2) (.int .i64 t467)) (fun _ hk => hk.2) (.int .i64 t468)) (fun _ hk => hk.2) (.int .i64 t469)) (fun _ hk => hk.2) (.int .i64 t470)) (fun _ hk => hk.2) (.int .i64 t471)) (fun _ hk => hk.2) (.int .i64 t472)) (fun _ hk => hk.2) (.int .i64 t473)) (fun _ hk => ⟨hk.1.1.1, ⟨hk.1.1.2, hk.1.2⟩⟩)⟩, ⟨by (with_reducible repeat (first | refine blk_drewN ?_ _ | refine blk_drew ?_ | refine blk_alloc ?_ _)); refine blk_far ?_ NB456_474.out _; (with_reducible repeat (first | refine blk_drewN ?_ _ | refine blk_drew ?_ | refine blk_alloc ?_ _)); refine blk_far ?_ NB456_474.out _; (with_reducible repeat (first | refine blk_drewN ?_ _ | refine blk_drew ?_ | refine blk_alloc ?_ _)); refine blk_far ?_ NB456_474.out _; (with_reducible repeat (first | refine blk_drewN ?_ _ | refine blk_drew ?_ | refine blk_alloc ?_ _)); refine blk_far ?_ NB456_474.out _; (with_reducible repeat (first | refine blk_drewN ?_ _ | refine blk_drew ?_ | refine blk_alloc ?_ _)); refine blk_far ?_ NB456_474.out _; (with_reducible repeat (first | refine blk_drewN ?_ _ | refine blk_drew ?_ | refine blk_alloc ?_ _)); refine blk_far ?_ NB456_474.out _; (with_reducible repeat (first | refine blk_drewN ?_ _ | refine blk_drew ?_ | refine blk_alloc ?_ _)); refine blk_far ?_ NB456_474.out _; (with_reducible repeat (first | refine blk_drewN ?_ _ | refine blk_drew ?_ | refine blk_alloc ?_ _)); exact BK456.out⟩, ⟨by (with_reducible repeat (first | refine blk_drewN ?_ _ | refine blk_drew ?_ | refine blk_alloc ?_ _)); refine blk_far ?_ NB465_474.out _; (with_reducible repeat (first | refine blk_drewN ?_ _ | refine blk_drew ?_ | refine blk_alloc ?_ _)); refine blk_far ?_ NB465_474.out _; (with_reducible repeat (first | refine blk_drewN ?_ _ | refine blk_drew ?_ | refine blk_alloc ?_ _)); refine blk_far ?_ NB465_474.out _; (with_reducible repeat (first | refine blk_drewN ?_ _ | refine blk_drew ?_ | refine blk_alloc ?_ _)); refine blk_far ?_ NB465_474.out _; (with_reducible repeat (first | refine blk_drewN ?_ _ | refine blk_drew ?_ | refine blk_alloc ?_ _)); refine blk_far ?_ NB465_474.out _; (with_reducible repeat (first | refine blk_drewN ?_ _ | refine blk_drew ?_ | refine blk_alloc ?_ _)); refine blk_far ?_ NB465_474.out _; (with_reducible repeat (first | refine blk_drewN ?_ _ | refine blk_drew ?_ | refine blk_alloc ?_ _)); refine blk_far ?_ NB465_474.out _; (with_reducible repeat (first | refine blk_drewN ?_ _ | refine blk_drew ?_ | refine blk_alloc ?_ _)); exact BK465.out⟩, ⟨by (with_reducible repeat (first | refine blk_drewN ?_ _ | refine blk_drew ?_ | refine blk_alloc ?_ _)); refine blk_put (cs := #[.int .i64 t467, .int .i64 t468, .int .i64 t469, .int .i64 t470, .int .i64 t471, .int .i64 t472, .int .i64 0]) ?_ 6 _ rfl; (with_reducible repeat (first | refine blk_drewN ?_ _ | refine blk_drew ?_ | refine blk_alloc ?_ _)); refine blk_put (cs := #[.int .i64 t467, .int .i64 t468, .int .i64 t469, .int .i64 t470, .int .i64 t471, .int .i64 0, .int .i64 0]) ?_ 5 _ rfl; (with_reducible repeat (first | refine blk_drewN ?_ _ | refine blk_drew ?_ | refine blk_alloc ?_ _)); refine blk_put (cs := #[.int .i64 t467, .int .i64 t468, .int .i64 t469, .int .i64 t470, .int .i64 0, .int .i64 0, .int .i64 0]) ?_ 4 _ rfl; (with_reducible repeat (first | refine blk_drewN ?_ _ | refine blk_drew ?_ | refine blk_alloc ?_ _)); refine blk_put (cs := #[.int .i64 t467, .int .i64 t468, .int .i64 t469, .int .i64 0, .int .i64 0, .int .i64 0, .int .i64 0]) ?_ 3 _ rfl; (with_reducible repeat (first | refine blk_drewN ?_ _ | refine blk_drew ?_ | refine blk_alloc ?_ _)); refine blk_put (cs := #[.int .i64 t467, .int .i64 t468, .int .i64 0, .int .i64 0, .int .i64 0, .int .i64 0, .int .i64 0]) ?_ 2 _ rfl; (with_reducible repeat (first | refine blk_drewN ?_ _ | refine blk_drew ?_ | refine blk_alloc ?_ _)); refine blk_put (cs := #[.int .i64 t467, .int .i64 0, .int .i64 0, .int .i64 0, .int .i64 0, .int .i64 0, .int .i64 0]) ?_ 1 _ rfl; (with_reducible repeat (first | refine blk_drewN ?_ _ | refine blk_drew ?_ | refine blk_alloc ?_ _)); refine blk_put (cs := #[.int .i64 0, .int .i64 0, .int .i64 0, .int .i64 0, .int .i64 0, .int .i64 0, .int .i64 0]) ?_ 0 _ rfl; (with_reducible repeat (first | refine blk_drewN ?_ _ | refine blk_drew ?_ | refine blk_alloc ?_ _)); exact BK474.out⟩, ⟨by repeat (first | (with_reducible first | exact HB.out | apply below_alloc | apply pw_below_drewN | apply below_drew1 | refine below_set ?_ GE456.out | refine below_set ?_ GE465.out | refine below_set ?_ GE474.out) | exact HB.out)⟩⟩
                    · replace c44 := Bool.eq_false_iff.mpr c44
                      subst c44
                      have H1 : (meanderlaw08_GraphDepths.j2 kj13 t457 x4_1 t466 false t458 t461 ((rd_T38 t458 x4_1).f0) ((rd_T38 t458 x4_1).f1) ((rd_T38 t458 x4_1).f2) ((rd_T38 t458 x4_1).f3)) = some r := by rw [if_neg (show ¬ (false = true) by decide)] at H; exact H
                      clear H
                      have H := H1
                      clear H1
                      have H' := Aside0.mk H
                      clear H
                      have hnb56 := NB465_456.out
                      have hnc56 := NB456_465.out
                      have hnb57 := NB465_474.out
                      have hnc57 := NB474_465.out
                      have hcz58_0 : w37.cell? ⟨gb465, 0, none⟩ = some (.int .i64 ((rd_T38 t458 x4_1).f0)) := (blk_cell BK465.out 0).trans rfl
                      have hcz58_1 : w37.cell? ⟨gb465, 1, none⟩ = some (.int .i64 ((rd_T38 t458 x4_1).f1)) := (blk_cell BK465.out 1).trans rfl
                      have hcz58_2 : w37.cell? ⟨gb465, 2, none⟩ = some (.int .i64 ((rd_T38 t458 x4_1).f2)) := (blk_cell BK465.out 2).trans rfl
                      have hcz58_3 : w37.cell? ⟨gb465, 3, none⟩ = some (.int .i64 ((rd_T38 t458 x4_1).f3)) := (blk_cell BK465.out 3).trans rfl
                      have hfz58_0 := blk_frozen BK465.out 0
                      have hfz58_1 := blk_frozen BK465.out 1
                      have hfz58_2 := blk_frozen BK465.out 2
                      have hfz58_3 := blk_frozen BK465.out 3
                      go_wp2_with (first | ((with_reducible refine gate_callee (f := 24) rfl ?_); refine goesL_ (some 46) rfl rfl Try.func24 (by kernel_rfl) rfl #[.int .i64 ((rd_T38 t458 x4_1).f0)] rfl (by (try simp only [List.map_toArray, List.map_cons, List.map_nil]); first | done | rfl | (simp only [List.length_drop, List.length_take]; rfl)) ?_; (with_reducible refine (graph_Ins.calls ((rd_T38 t458 x4_1).f0) t475 _ A41.out).mono ?_); rintro e w' ⟨rfl, ⟨nd, rfl⟩⟩; refine ⟨_, rfl, ?_⟩) | (go_at_call 25; (with_reducible refine (graph_HasOut.calls ((rd_T38 t458 x4_1).f0) false _ A43.out).mono ?_); rintro e w' ⟨rfl, ⟨nd, rfl⟩⟩))
                      go_meet
                      case rel => exact ⟨_, (false), (by first | rfl | (simp; done) | (simp [*]; done)), H', ⟨by have := HK1.out; have := HJ13.out; first | omega | exact Nat.le_refl _⟩, ⟨by (with_reducible repeat (first | apply Kd.V_alloc | apply Kd.V_drewN | apply Kd.V_drew)); exact Kd.V_mono (Kd.V_far (p := ⟨gb474, 6, none⟩) (Kd.V_far (p := ⟨gb474, 5, none⟩) (Kd.V_far (p := ⟨gb474, 4, none⟩) (Kd.V_far (p := ⟨gb474, 3, none⟩) (Kd.V_far (p := ⟨gb474, 2, none⟩) (Kd.V_far (p := ⟨gb474, 1, none⟩) (Kd.V_far (p := ⟨gb474, 0, none⟩) (Kd.V_mono HO_457000.out (fun k_ hk => (⟨hk, hk.2⟩ : _ ∧ k_ ≠ gb474))) (fun _ hk => hk.2) (.int .i64 t467)) (fun _ hk => hk.2) (.int .i64 t468)) (fun _ hk => hk.2) (.int .i64 t469)) (fun _ hk => hk.2) (.int .i64 t470)) (fun _ hk => hk.2) (.int .i64 t471)) (fun _ hk => hk.2) (.int .i64 t472)) (fun _ hk => hk.2) (.int .i64 t473)) (fun _ hk => ⟨hk.1.1.1, ⟨hk.1.1.2, hk.1.2⟩⟩)⟩, ⟨by (with_reducible repeat (first | apply Kd.V_alloc | apply Kd.V_drewN | apply Kd.V_drew)); exact Kd.V_mono (Kd.V_far (p := ⟨gb474, 6, none⟩) (Kd.V_far (p := ⟨gb474, 5, none⟩) (Kd.V_far (p := ⟨gb474, 4, none⟩) (Kd.V_far (p := ⟨gb474, 3, none⟩) (Kd.V_far (p := ⟨gb474, 2, none⟩) (Kd.V_far (p := ⟨gb474, 1, none⟩) (Kd.V_far (p := ⟨gb474, 0, none⟩) (Kd.V_mono HO_457001.out (fun k_ hk => (⟨hk, hk.2⟩ : _ ∧ k_ ≠ gb474))) (fun _ hk => hk.2) (.int .i64 t467)) (fun _ hk => hk.2) (.int .i64 t468)) (fun _ hk => hk.2) (.int .i64 t469)) (fun _ hk => hk.2) (.int .i64 t470)) (fun _ hk => hk.2) (.int .i64 t471)) (fun _ hk => hk.2) (.int .i64 t472)) (fun _ hk => hk.2) (.int .i64 t473)) (fun _ hk => ⟨hk.1.1.1, ⟨hk.1.1.2, hk.1.2⟩⟩)⟩, ⟨by (with_reducible repeat (first | refine blk_drewN ?_ _ | refine blk_drew ?_ | refine blk_alloc ?_ _)); refine blk_far ?_ NB456_474.out _; (with_reducible repeat (first | refine blk_drewN ?_ _ | refine blk_drew ?_ | refine blk_alloc ?_ _)); refine blk_far ?_ NB456_474.out _; (with_reducible repeat (first | refine blk_drewN ?_ _ | refine blk_drew ?_ | refine blk_alloc ?_ _)); refine blk_far ?_ NB456_474.out _; (with_reducible repeat (first | refine blk_drewN ?_ _ | refine blk_drew ?_ | refine blk_alloc ?_ _)); refine blk_far ?_ NB456_474.out _; (with_reducible repeat (first | refine blk_drewN ?_ _ | refine blk_drew ?_ | refine blk_alloc ?_ _)); refine blk_far ?_ NB456_474.out _; (with_reducible repeat (first | refine blk_drewN ?_ _ | refine blk_drew ?_ | refine blk_alloc ?_ _)); refine blk_far ?_ NB456_474.out _; (with_reducible repeat (first | refine blk_drewN ?_ _ | refine blk_drew ?_ | refine blk_alloc ?_ _)); refine blk_far ?_ NB456_474.out _; (with_reducible repeat (first | refine blk_drewN ?_ _ | refine blk_drew ?_ | refine blk_alloc ?_ _)); exact BK456.out⟩, ⟨by (with_reducible repeat (first | refine blk_drewN ?_ _ | refine blk_drew ?_ | refine blk_alloc ?_ _)); refine blk_far ?_ NB465_474.out _; (with_reducible repeat (first | refine blk_drewN ?_ _ | refine blk_drew ?_ | refine blk_alloc ?_ _)); refine blk_far ?_ NB465_474.out _; (with_reducible repeat (first | refine blk_drewN ?_ _ | refine blk_drew ?_ | refine blk_alloc ?_ _)); refine blk_far ?_ NB465_474.out _; (with_reducible repeat (first | refine blk_drewN ?_ _ | refine blk_drew ?_ | refine blk_alloc ?_ _)); refine blk_far ?_ NB465_474.out _; (with_reducible repeat (first | refine blk_drewN ?_ _ | refine blk_drew ?_ | refine blk_alloc ?_ _)); refine blk_far ?_ NB465_474.out _; (with_reducible repeat (first | refine blk_drewN ?_ _ | refine blk_drew ?_ | refine blk_alloc ?_ _)); refine blk_far ?_ NB465_474.out _; (with_reducible repeat (first | refine blk_drewN ?_ _ | refine blk_drew ?_ | refine blk_alloc ?_ _)); refine blk_far ?_ NB465_474.out _; (with_reducible repeat (first | refine blk_drewN ?_ _ | refine blk_drew ?_ | refine blk_alloc ?_ _)); exact BK465.out⟩, ⟨by (with_reducible repeat (first | refine blk_drewN ?_ _ | refine blk_drew ?_ | refine blk_alloc ?_ _)); refine blk_put (cs := #[.int .i64 t467, .int .i64 t468, .int .i64 t469, .int .i64 t470, .int .i64 t471, .int .i64 t472, .int .i64 0]) ?_ 6 _ rfl; (with_reducible repeat (first | refine blk_drewN ?_ _ | refine blk_drew ?_ | refine blk_alloc ?_ _)); refine blk_put (cs := #[.int .i64 t467, .int .i64 t468, .int .i64 t469, .int .i64 t470, .int .i64 t471, .int .i64 0, .int .i64 0]) ?_ 5 _ rfl; (with_reducible repeat (first | refine blk_drewN ?_ _ | refine blk_drew ?_ | refine blk_alloc ?_ _)); refine blk_put (cs := #[.int .i64 t467, .int .i64 t468, .int .i64 t469, .int .i64 t470, .int .i64 0, .int .i64 0, .int .i64 0]) ?_ 4 _ rfl; (with_reducible repeat (first | refine blk_drewN ?_ _ | refine blk_drew ?_ | refine blk_alloc ?_ _)); refine blk_put (cs := #[.int .i64 t467, .int .i64 t468, .int .i64 t469, .int .i64 0, .int .i64 0, .int .i64 0, .int .i64 0]) ?_ 3 _ rfl; (with_reducible repeat (first | refine blk_drewN ?_ _ | refine blk_drew ?_ | refine blk_alloc ?_ _)); refine blk_put (cs := #[.int .i64 t467, .int .i64 t468, .int .i64 0, .int .i64 0, .int .i64 0, .int .i64 0, .int .i64 0]) ?_ 2 _ rfl; (with_reducible repeat (first | refine blk_drewN ?_ _ | refine blk_drew ?_ | refine blk_alloc ?_ _)); refine blk_put (cs := #[.int .i64 t467, .int .i64 0, .int .i64 0, .int .i64 0, .int .i64 0, .int .i64 0, .int .i64 0]) ?_ 1 _ rfl; (with_reducible repeat (first | refine blk_drewN ?_ _ | refine blk_drew ?_ | refine blk_alloc ?_ _)); refine blk_put (cs := #[.int .i64 0, .int .i64 0, .int .i64 0, .int .i64 0, .int .i64 0, .int .i64 0, .int .i64 0]) ?_ 0 _ rfl; (with_reducible repeat (first | refine blk_drewN ?_ _ | refine blk_drew ?_ | refine blk_alloc ?_ _)); exact BK474.out⟩, ⟨by repeat (first | (with_reducible first | exact HB.out | apply below_alloc | apply pw_below_drewN | apply below_drew1 | refine below_set ?_ GE456.out | refine below_set ?_ GE465.out | refine below_set ?_ GE474.out) | exact HB.out)⟩⟩
                  · rw [if_neg c42] at H
                    have c42b0 : decide (0 < t475) = false := decide_eq_false c42
                    clear c42
                    (first | rw [c42b0] | (simp only [i64_w, i32_w]; rw [c42b0]) | skip)
                    have H' := Aside0.mk H
                    clear H
                    have hnb59 := NB465_456.out
                    have hnc59 := NB456_465.out
                    have hnb60 := NB465_474.out
                    have hnc60 := NB474_465.out
                    have hcz61_0 : w37.cell? ⟨gb465, 0, none⟩ = some (.int .i64 ((rd_T38 t458 x4_1).f0)) := (blk_cell BK465.out 0).trans rfl
                    have hcz61_1 : w37.cell? ⟨gb465, 1, none⟩ = some (.int .i64 ((rd_T38 t458 x4_1).f1)) := (blk_cell BK465.out 1).trans rfl
                    have hcz61_2 : w37.cell? ⟨gb465, 2, none⟩ = some (.int .i64 ((rd_T38 t458 x4_1).f2)) := (blk_cell BK465.out 2).trans rfl
                    have hcz61_3 : w37.cell? ⟨gb465, 3, none⟩ = some (.int .i64 ((rd_T38 t458 x4_1).f3)) := (blk_cell BK465.out 3).trans rfl
                    have hfz61_0 := blk_frozen BK465.out 0
                    have hfz61_1 := blk_frozen BK465.out 1
                    have hfz61_2 := blk_frozen BK465.out 2
                    have hfz61_3 := blk_frozen BK465.out 3
                    go_wp2_with (first | ((with_reducible refine gate_callee (f := 24) rfl ?_); refine goesL_ (some 46) rfl rfl Try.func24 (by kernel_rfl) rfl #[.int .i64 ((rd_T38 t458 x4_1).f0)] rfl (by (try simp only [List.map_toArray, List.map_cons, List.map_nil]); first | done | rfl | (simp only [List.length_drop, List.length_take]; rfl)) ?_; (with_reducible refine (graph_Ins.calls ((rd_T38 t458 x4_1).f0) t475 _ A41.out).mono ?_); rintro e w' ⟨rfl, ⟨nd, rfl⟩⟩; refine ⟨_, rfl, ?_⟩))
                    go_meet
                    case rel => exact ⟨_, (false), (by first | rfl | (simp; done) | (simp [*]; done)), H', ⟨by have := HK1.out; have := HJ13.out; first | omega | exact Nat.le_refl _⟩, ⟨by (with_reducible repeat (first | apply Kd.V_alloc | apply Kd.V_drewN | apply Kd.V_drew)); exact Kd.V_mono (Kd.V_far (p := ⟨gb474, 6, none⟩) (Kd.V_far (p := ⟨gb474, 5, none⟩) (Kd.V_far (p := ⟨gb474, 4, none⟩) (Kd.V_far (p := ⟨gb474, 3, none⟩) (Kd.V_far (p := ⟨gb474, 2, none⟩) (Kd.V_far (p := ⟨gb474, 1, none⟩) (Kd.V_far (p := ⟨gb474, 0, none⟩) (Kd.V_mono HO_457000.out (fun k_ hk => (⟨hk, hk.2⟩ : _ ∧ k_ ≠ gb474))) (fun _ hk => hk.2) (.int .i64 t467)) (fun _ hk => hk.2) (.int .i64 t468)) (fun _ hk => hk.2) (.int .i64 t469)) (fun _ hk => hk.2) (.int .i64 t470)) (fun _ hk => hk.2) (.int .i64 t471)) (fun _ hk => hk.2) (.int .i64 t472)) (fun _ hk => hk.2) (.int .i64 t473)) (fun _ hk => ⟨hk.1.1.1, ⟨hk.1.1.2, hk.1.2⟩⟩)⟩, ⟨by (with_reducible repeat (first | apply Kd.V_alloc | apply Kd.V_drewN | apply Kd.V_drew)); exact Kd.V_mono (Kd.V_far (p := ⟨gb474, 6, none⟩) (Kd.V_far (p := ⟨gb474, 5, none⟩) (Kd.V_far (p := ⟨gb474, 4, none⟩) (Kd.V_far (p := ⟨gb474, 3, none⟩) (Kd.V_far (p := ⟨gb474, 2, none⟩) (Kd.V_far (p := ⟨gb474, 1, none⟩) (Kd.V_far (p := ⟨gb474, 0, none⟩) (Kd.V_mono HO_457001.out (fun k_ hk => (⟨hk, hk.2⟩ : _ ∧ k_ ≠ gb474))) (fun _ hk => hk.2) (.int .i64 t467)) (fun _ hk => hk.2) (.int .i64 t468)) (fun _ hk => hk.2) (.int .i64 t469)) (fun _ hk => hk.2) (.int .i64 t470)) (fun _ hk => hk.2) (.int .i64 t471)) (fun _ hk => hk.2) (.int .i64 t472)) (fun _ hk => hk.2) (.int .i64 t473)) (fun _ hk => ⟨hk.1.1.1, ⟨hk.1.1.2, hk.1.2⟩⟩)⟩, ⟨by (with_reducible repeat (first | refine blk_drewN ?_ _ | refine blk_drew ?_ | refine blk_alloc ?_ _)); refine blk_far ?_ NB456_474.out _; (with_reducible repeat (first | refine blk_drewN ?_ _ | refine blk_drew ?_ | refine blk_alloc ?_ _)); refine blk_far ?_ NB456_474.out _; (with_reducible repeat (first | refine blk_drewN ?_ _ | refine blk_drew ?_ | refine blk_alloc ?_ _)); refine blk_far ?_ NB456_474.out _; (with_reducible repeat (first | refine blk_drewN ?_ _ | refine blk_drew ?_ | refine blk_alloc ?_ _)); refine blk_far ?_ NB456_474.out _; (with_reducible repeat (first | refine blk_drewN ?_ _ | refine blk_drew ?_ | refine blk_alloc ?_ _)); refine blk_far ?_ NB456_474.out _; (with_reducible repeat (first | refine blk_drewN ?_ _ | refine blk_drew ?_ | refine blk_alloc ?_ _)); refine blk_far ?_ NB456_474.out _; (with_reducible repeat (first | refine blk_drewN ?_ _ | refine blk_drew ?_ | refine blk_alloc ?_ _)); refine blk_far ?_ NB456_474.out _; (with_reducible repeat (first | refine blk_drewN ?_ _ | refine blk_drew ?_ | refine blk_alloc ?_ _)); exact BK456.out⟩, ⟨by (with_reducible repeat (first | refine blk_drewN ?_ _ | refine blk_drew ?_ | refine blk_alloc ?_ _)); refine blk_far ?_ NB465_474.out _; (with_reducible repeat (first | refine blk_drewN ?_ _ | refine blk_drew ?_ | refine blk_alloc ?_ _)); refine blk_far ?_ NB465_474.out _; (with_reducible repeat (first | refine blk_drewN ?_ _ | refine blk_drew ?_ | refine blk_alloc ?_ _)); refine blk_far ?_ NB465_474.out _; (with_reducible repeat (first | refine blk_drewN ?_ _ | refine blk_drew ?_ | refine blk_alloc ?_ _)); refine blk_far ?_ NB465_474.out _; (with_reducible repeat (first | refine blk_drewN ?_ _ | refine blk_drew ?_ | refine blk_alloc ?_ _)); refine blk_far ?_ NB465_474.out _; (with_reducible repeat (first | refine blk_drewN ?_ _ | refine blk_drew ?_ | refine blk_alloc ?_ _)); refine blk_far ?_ NB465_474.out _; (with_reducible repeat (first | refine blk_drewN ?_ _ | refine blk_drew ?_ | refine blk_alloc ?_ _)); refine blk_far ?_ NB465_474.out _; (with_reducible repeat (first | refine blk_drewN ?_ _ | refine blk_drew ?_ | refine blk_alloc ?_ _)); exact BK465.out⟩, ⟨by (with_reducible repeat (first | refine blk_drewN ?_ _ | refine blk_drew ?_ | refine blk_alloc ?_ _)); refine blk_put (cs := #[.int .i64 t467, .int .i64 t468, .int .i64 t469, .int .i64 t470, .int .i64 t471, .int .i64 t472, .int .i64 0]) ?_ 6 _ rfl; (with_reducible repeat (first | refine blk_drewN ?_ _ | refine blk_drew ?_ | refine blk_alloc ?_ _)); refine blk_put (cs := #[.int .i64 t467, .int .i64 t468, .int .i64 t469, .int .i64 t470, .int .i64 t471, .int .i64 0, .int .i64 0]) ?_ 5 _ rfl; (with_reducible repeat (first | refine blk_drewN ?_ _ | refine blk_drew ?_ | refine blk_alloc ?_ _)); refine blk_put (cs := #[.int .i64 t467, .int .i64 t468, .int .i64 t469, .int .i64 t470, .int .i64 0, .int .i64 0, .int .i64 0]) ?_ 4 _ rfl; (with_reducible repeat (first | refine blk_drewN ?_ _ | refine blk_drew ?_ | refine blk_alloc ?_ _)); refine blk_put (cs := #[.int .i64 t467, .int .i64 t468, .int .i64 t469, .int .i64 0, .int .i64 0, .int .i64 0, .int .i64 0]) ?_ 3 _ rfl; (with_reducible repeat (first | refine blk_drewN ?_ _ | refine blk_drew ?_ | refine blk_alloc ?_ _)); refine blk_put (cs := #[.int .i64 t467, .int .i64 t468, .int .i64 0, .int .i64 0, .int .i64 0, .int .i64 0, .int .i64 0]) ?_ 2 _ rfl; (with_reducible repeat (first | refine blk_drewN ?_ _ | refine blk_drew ?_ | refine blk_alloc ?_ _)); refine blk_put (cs := #[.int .i64 t467, .int .i64 0, .int .i64 0, .int .i64 0, .int .i64 0, .int .i64 0, .int .i64 0]) ?_ 1 _ rfl; (with_reducible repeat (first | refine blk_drewN ?_ _ | refine blk_drew ?_ | refine blk_alloc ?_ _)); refine blk_put (cs := #[.int .i64 0, .int .i64 0, .int .i64 0, .int .i64 0, .int .i64 0, .int .i64 0, .int .i64 0]) ?_ 0 _ rfl; (with_reducible repeat (first | refine blk_drewN ?_ _ | refine blk_drew ?_ | refine blk_alloc ?_ _)); exact BK474.out⟩, ⟨by repeat (first | (with_reducible first | exact HB.out | apply below_alloc | apply pw_below_drewN | apply below_drew1 | refine below_set ?_ GE456.out | refine below_set ?_ GE465.out | refine below_set ?_ GE474.out) | exact HB.out)⟩⟩
                case rest =>
                  clear HC33
                  try clear c1
                  try clear c2
                  try clear p2
                  try clear c3
                  try clear c4
                  try clear p4
                  try clear q4
                  try clear hx4
                  try clear c5
                  try clear c6
                  try clear p6
                  try clear c8
                  try clear c9
                  try clear c11
                  try clear c11b0
                  try clear c12
                  try clear c12b0
                  try clear c17
                  try clear c20
                  try clear c20b0
                  try clear c21
                  try clear c23
                  try clear c23b0
                  try clear c24
                  try clear c26
                  try clear c26b0
                  try clear c27
                  try clear c28
                  try clear c29
                  try clear c30
                  try clear c31
                  try clear c34
                  try clear c38
                  try clear c39
                  try clear c42
                  try clear c42b0
                  try clear c44
                  try clear c45
                  try clear c45b0
                  try clear c45b1
                  try clear c46
                  try clear p46
                  try clear q46
                  try clear hx46
                  try clear c47
                  try clear c49
                  try clear c51
                  try clear c52
                  try clear c54
                  try clear c56
                  try clear c57
                  try clear c59
                  try clear c60
                  try clear hcz15_0
                  try clear hcz15_1
                  try clear hcz18_0
                  try clear hcz18_1
                  try clear hcz18_2
                  try clear hcz18_3
                  try clear hcz22_0
                  try clear hcz22_1
                  try clear hcz22_2
                  try clear hcz22_3
                  try clear hcz25_0
                  try clear hcz25_1
                  try clear hcz25_2
                  try clear hcz25_3
                  try clear hcz28_0
                  try clear hcz28_1
                  try clear hcz28_2
                  try clear hcz28_3
                  try clear hcz30_0
                  try clear hcz30_1
                  try clear hcz30_2
                  try clear hcz30_3
                  try clear hcz35_0
                  try clear hcz35_1
                  try clear hcz35_2
                  try clear hcz35_3
                  try clear hcz40_0
                  try clear hcz40_1
                  try clear hcz40_2
                  try clear hcz40_3
                  try clear hcz40_4
                  try clear hcz40_5
                  try clear hcz40_6
                  try clear hcz48_0
                  try clear hcz48_1
                  try clear hcz48_2
                  try clear hcz48_3
                  try clear hcz50_0
                  try clear hcz50_1
                  try clear hcz50_2
                  try clear hcz50_3
                  try clear hcz50_4
                  try clear hcz50_5
                  try clear hcz50_6
                  try clear hcz53_0
                  try clear hcz53_1
                  try clear hcz53_2
                  try clear hcz53_3
                  try clear hcz55_0
                  try clear hcz55_1
                  try clear hcz55_2
                  try clear hcz55_3
                  try clear hcz55_4
                  try clear hcz55_5
                  try clear hcz55_6
                  try clear hcz58_0
                  try clear hcz58_1
                  try clear hcz58_2
                  try clear hcz58_3
                  try clear hcz61_0
                  try clear hcz61_1
                  try clear hcz61_2
                  try clear hcz61_3
                  try clear hcz6_0
                  try clear hcz6_1
                  try clear hcz9_0
                  try clear hcz9_1
                  try clear hfz15_0
                  try clear hfz15_1
                  try clear hfz18_0
                  try clear hfz18_1
                  try clear hfz18_2
                  try clear hfz18_3
                  try clear hfz22_0
                  try clear hfz22_1
                  try clear hfz22_2
                  try clear hfz22_3
                  try clear hfz25_0
                  try clear hfz25_1
                  try clear hfz25_2
                  try clear hfz25_3
                  try clear hfz28_0
                  try clear hfz28_1
                  try clear hfz28_2
                  try clear hfz28_3
                  try clear hfz30_0
                  try clear hfz30_1
                  try clear hfz30_2
                  try clear hfz30_3
                  try clear hfz35_0
                  try clear hfz35_1
                  try clear hfz35_2
                  try clear hfz35_3
                  try clear hfz40_0
                  try clear hfz40_1
                  try clear hfz40_2
                  try clear hfz40_3
                  try clear hfz40_4
                  try clear hfz40_5
                  try clear hfz40_6
                  try clear hfz48_0
                  try clear hfz48_1
                  try clear hfz48_2
                  try clear hfz48_3
                  try clear hfz50_0
                  try clear hfz50_1
                  try clear hfz50_2
                  try clear hfz50_3
                  try clear hfz50_4
                  try clear hfz50_5
                  try clear hfz50_6
                  try clear hfz53_0
                  try clear hfz53_1
                  try clear hfz53_2
                  try clear hfz53_3
                  try clear hfz55_0
                  try clear hfz55_1
                  try clear hfz55_2
                  try clear hfz55_3
                  try clear hfz55_4
                  try clear hfz55_5
                  try clear hfz55_6
                  try clear hfz58_0
                  try clear hfz58_1
                  try clear hfz58_2
                  try clear hfz58_3
                  try clear hfz61_0
                  try clear hfz61_1
                  try clear hfz61_2
                  try clear hfz61_3
                  try clear hfz6_0
                  try clear hfz6_1
                  try clear hfz9_0
                  try clear hfz9_1
                  try clear hx464_0
                  try clear hx464_1
                  try clear hx464_2
                  try clear hx464_3
                  try clear p2
                  try clear p4
                  try clear p464
                  try clear q4
                  try clear q464
                  obtain ⟨kq, x65_32, rfl, HA, HJ32, HO_457000, HO_457001, BK456, BK465, BK474, HB⟩ := hcut
                  cases kq with
                  | zero => exact absurd HA.out (by simp [meanderlaw08_GraphDepths.j2])
                  | succ kj32 =>
                    have H := HA.out
                    clear HA
                    simp only [meanderlaw08_GraphDepths.j2] at H
                    by_cases c62 : x65_32 = true
                    · subst c62
                      have H1 : (some false) = some r := by rw [if_pos rfl] at H; exact H
                      clear H
                      have H := H1
                      clear H1
                      obtain rfl := Option.some.inj H
                      go_wp2
                      go_ret
                      exact ⟨by first | rfl | (simp [errW_none, errW_some] <;> rfl) | (simp [*, errW_none, errW_some] <;> rfl), by repeat (first | (with_reducible first | exact HB.out | apply below_alloc | apply pw_below_drewN | apply below_drew1 | refine below_set ?_ GE456.out | refine below_set ?_ GE465.out | refine below_set ?_ GE474.out) | exact HB.out)⟩
                    · replace c62 := Bool.eq_false_iff.mpr c62
                      subst c62
                      have H1 : (meanderlaw08_GraphDepths.l1 kj32 t457 x4_1 t466 0 t458 t461 ((rd_T38 t458 x4_1).f0) ((rd_T38 t458 x4_1).f1) ((rd_T38 t458 x4_1).f2) ((rd_T38 t458 x4_1).f3)) = some r := by rw [if_neg (show ¬ (false = true) by decide)] at H; exact H
                      clear H
                      have H := H1
                      clear H1
                      have H' := Aside0.mk H
                      clear H
                      go_wp2
                      go_loopg [8] kj32 (fun kq v8 w' => ∃ (x8_4 : Int), v8 = .int .i64 x8_4 ∧ Aside0 (meanderlaw08_GraphDepths.l1 kq t457 x4_1 t466 x8_4 t458 t461 ((rd_T38 t458 x4_1).f0) ((rd_T38 t458 x4_1).f1) ((rd_T38 t458 x4_1).f2) ((rd_T38 t458 x4_1).f3) = some r) ∧ Aside0 (kq ≤ kj32) ∧ Aside0 (Kd.V k38 38 w' w.heap.size (fun k_ => k_ ≠ gb456 ∧ k_ ≠ gb465 ∧ k_ ≠ gb474) (.slice (some ad464) t458.length co8) t458) ∧ Aside0 (Kd.V k35 35 w' w.heap.size (fun k_ => k_ ≠ gb456 ∧ k_ ≠ gb465 ∧ k_ ≠ gb474) (.slice Ao10 t461.length co10) t461) ∧ Aside0 (w'.heap[gb456]? = some (.cells #[(.slice (some ad464) t458.length co8), (.slice Ao10 t461.length co10)] 30 (0, 0))) ∧ Aside0 (w'.heap[gb465]? = some (.cells #[.int .i64 ((rd_T38 t458 x4_1).f0), .int .i64 ((rd_T38 t458 x4_1).f1), .int .i64 ((rd_T38 t458 x4_1).f2), .int .i64 ((rd_T38 t458 x4_1).f3)] 38 (0, 0))) ∧ Aside0 (w'.heap[gb474]? = some (.cells #[.int .i64 t467, .int .i64 t468, .int .i64 t469, .int .i64 t470, .int .i64 t471, .int .i64 t472, .int .i64 t473] 51 (0, 0))) ∧ Aside0 (Below w.heap.size w w'))
                      case atStart => exact ⟨(0), (by first | rfl | (simp; done) | (simp [*]; done)), H', ⟨Nat.le_refl _⟩, ⟨by (with_reducible repeat (first | apply Kd.V_alloc | apply Kd.V_drewN | apply Kd.V_drew)); exact HO_457000.out⟩, ⟨by (with_reducible repeat (first | apply Kd.V_alloc | apply Kd.V_drewN | apply Kd.V_drew)); exact HO_457001.out⟩, ⟨by (with_reducible repeat (first | refine blk_drewN ?_ _ | refine blk_drew ?_ | refine blk_alloc ?_ _)); exact BK456.out⟩, ⟨by (with_reducible repeat (first | refine blk_drewN ?_ _ | refine blk_drew ?_ | refine blk_alloc ?_ _)); exact BK465.out⟩, ⟨by (with_reducible repeat (first | refine blk_drewN ?_ _ | refine blk_drew ?_ | refine blk_alloc ?_ _)); exact BK474.out⟩, ⟨by repeat (first | (with_reducible first | exact HB.out | apply below_alloc | apply pw_below_drewN | apply below_drew1 | refine below_set ?_ GE456.out | refine below_set ?_ GE465.out | refine below_set ?_ GE474.out) | exact HB.out)⟩⟩
                      case round =>
                        clear H'
                        try clear c1
                        try clear c2
                        try clear p2
                        try clear c3
                        try clear c4
                        try clear p4
                        try clear q4
                        try clear hx4
                        try clear c5
                        try clear c6
                        try clear p6
                        try clear c8
                        try clear c9
                        try clear c11
                        try clear c11b0
                        try clear c12
                        try clear c12b0
                        try clear c17
                        try clear c20
                        try clear c20b0
                        try clear c21
                        try clear c23
                        try clear c23b0
                        try clear c24
                        try clear c26
                        try clear c26b0
                        try clear c27
                        try clear c28
                        try clear c29
                        try clear c30
                        try clear c31
                        try clear c34
                        try clear c38
                        try clear c39
                        try clear c42
                        try clear c42b0
                        try clear c44
                        try clear c45
                        try clear c45b0
                        try clear c45b1
                        try clear c46
                        try clear p46
                        try clear q46
                        try clear hx46
                        try clear c47
                        try clear c49
                        try clear c51
                        try clear c52
                        try clear c54
                        try clear c56
                        try clear c57
                        try clear c59
                        try clear c60
                        try clear c62
                        try clear hcz15_0
                        try clear hcz15_1
                        try clear hcz18_0
                        try clear hcz18_1
                        try clear hcz18_2
                        try clear hcz18_3
                        try clear hcz22_0
                        try clear hcz22_1
                        try clear hcz22_2
                        try clear hcz22_3
                        try clear hcz25_0
                        try clear hcz25_1
                        try clear hcz25_2
                        try clear hcz25_3
                        try clear hcz28_0
                        try clear hcz28_1
                        try clear hcz28_2
                        try clear hcz28_3
                        try clear hcz30_0
                        try clear hcz30_1
                        try clear hcz30_2
                        try clear hcz30_3
                        try clear hcz35_0
                        try clear hcz35_1
                        try clear hcz35_2
                        try clear hcz35_3
                        try clear hcz40_0
                        try clear hcz40_1
                        try clear hcz40_2
                        try clear hcz40_3
                        try clear hcz40_4
                        try clear hcz40_5
                        try clear hcz40_6
                        try clear hcz48_0
                        try clear hcz48_1
                        try clear hcz48_2
                        try clear hcz48_3
                        try clear hcz50_0
                        try clear hcz50_1
                        try clear hcz50_2
                        try clear hcz50_3
                        try clear hcz50_4
                        try clear hcz50_5
                        try clear hcz50_6
                        try clear hcz53_0
                        try clear hcz53_1
                        try clear hcz53_2
                        try clear hcz53_3
                        try clear hcz55_0
                        try clear hcz55_1
                        try clear hcz55_2
                        try clear hcz55_3
                        try clear hcz55_4
                        try clear hcz55_5
                        try clear hcz55_6
                        try clear hcz58_0
                        try clear hcz58_1
                        try clear hcz58_2
                        try clear hcz58_3
                        try clear hcz61_0
                        try clear hcz61_1
                        try clear hcz61_2
                        try clear hcz61_3
                        try clear hcz6_0
                        try clear hcz6_1
                        try clear hcz9_0
                        try clear hcz9_1
                        try clear hfz15_0
                        try clear hfz15_1
                        try clear hfz18_0
                        try clear hfz18_1
                        try clear hfz18_2
                        try clear hfz18_3
                        try clear hfz22_0
                        try clear hfz22_1
                        try clear hfz22_2
                        try clear hfz22_3
                        try clear hfz25_0
                        try clear hfz25_1
                        try clear hfz25_2
                        try clear hfz25_3
                        try clear hfz28_0
                        try clear hfz28_1
                        try clear hfz28_2
                        try clear hfz28_3
                        try clear hfz30_0
                        try clear hfz30_1
                        try clear hfz30_2
                        try clear hfz30_3
                        try clear hfz35_0
                        try clear hfz35_1
                        try clear hfz35_2
                        try clear hfz35_3
                        try clear hfz40_0
                        try clear hfz40_1
                        try clear hfz40_2
                        try clear hfz40_3
                        try clear hfz40_4
                        try clear hfz40_5
                        try clear hfz40_6
                        try clear hfz48_0
                        try clear hfz48_1
                        try clear hfz48_2
                        try clear hfz48_3
                        try clear hfz50_0
                        try clear hfz50_1
                        try clear hfz50_2
                        try clear hfz50_3
                        try clear hfz50_4
                        try clear hfz50_5
                        try clear hfz50_6
                        try clear hfz53_0
                        try clear hfz53_1
                        try clear hfz53_2
                        try clear hfz53_3
                        try clear hfz55_0
                        try clear hfz55_1
                        try clear hfz55_2
                        try clear hfz55_3
                        try clear hfz55_4
                        try clear hfz55_5
                        try clear hfz55_6
                        try clear hfz58_0
                        try clear hfz58_1
                        try clear hfz58_2
                        try clear hfz58_3
                        try clear hfz61_0
                        try clear hfz61_1
                        try clear hfz61_2
                        try clear hfz61_3
                        try clear hfz6_0
                        try clear hfz6_1
                        try clear hfz9_0
                        try clear hfz9_1
                        try clear hx464_0
                        try clear hx464_1
                        try clear hx464_2
                        try clear hx464_3
                        try clear p2
                        try clear p4
                        try clear p46
                        try clear p464
                        try clear p6
                        try clear q4
                        try clear q46
                        try clear q464
                        obtain ⟨x8_4, rfl, HA, HK4, HO_457000, HO_457001, BK456, BK465, BK474, HB⟩ := hrel
                        cases gk with
                        | zero => exact absurd HA.out (by simp [meanderlaw08_GraphDepths.l1])
                        | succ k4 =>
                          have H := HA.out
                          clear HA
                          simp only [meanderlaw08_GraphDepths.l1] at H
                          replace H := Option.bind_eq_some_iff.mp H
                          obtain ⟨t477, A630, H⟩ := H
                          replace H : (if x8_4 < t477 then ((graph_Depth.f k4 t458 t461 x4_1 x8_4).bind fun t478 => (if t478 = t466 then (meanderlaw08_GraphDepths.l1 k4 t457 x4_1 t466 (wrap64 (x8_4 + 1)) t458 t461 ((rd_T38 t458 x4_1).f0) ((rd_T38 t458 x4_1).f1) ((rd_T38 t458 x4_1).f2) ((rd_T38 t458 x4_1).f3)) else (some false))) else ((graph_HasOut.f ((rd_T38 t458 x4_1).f0)).bind fun t479 => ((graph_Depth.f k4 t458 t461 x4_1 (-1)).bind fun t480 => (if (t479 != (t480 == ((rd_T38 t458 x4_1).f3))) = true then (some false) else (meanderlaw08_GraphDepths.l0 k4 t457 (wrap64 (x4_1 + 1)) t458 t461))))) = some r := H
                          have A63 := Aside0.mk A630
                          clear A630
                          by_cases c64 : x8_4 < t477
                          · rw [if_pos c64] at H
                            have c64b0 : decide (x8_4 < t477) = true := decide_eq_true c64
                            clear c64
                            replace H := Option.bind_eq_some_iff.mp H
                            obtain ⟨t478, A650, H⟩ := H
                            replace H : (if t478 = t466 then (meanderlaw08_GraphDepths.l1 k4 t457 x4_1 t466 (wrap64 (x8_4 + 1)) t458 t461 ((rd_T38 t458 x4_1).f0) ((rd_T38 t458 x4_1).f1) ((rd_T38 t458 x4_1).f2) ((rd_T38 t458 x4_1).f3)) else (some false)) = some r := H
                            have A65 := Aside0.mk A650
                            clear A650
                            by_cases c66 : t478 = t466
                            · rw [if_pos c66] at H
                              have c66b0 : (t478 == t466) = true := beq_iff_eq.mpr c66
                              have c66b1 : (t478 != t466) = false := bne_eq_false_iff_eq.mpr c66
                              clear c66
                              have H' := Aside0.mk H
                              clear H
                              have hnb67 := NB465_456.out
                              have hnc67 := NB456_465.out
                              have hnb68 := NB465_474.out
                              have hnc68 := NB474_465.out
                              have hcz69_0 : wr.cell? ⟨gb465, 0, none⟩ = some (.int .i64 ((rd_T38 t458 x4_1).f0)) := (blk_cell BK465.out 0).trans rfl
                              have hcz69_1 : wr.cell? ⟨gb465, 1, none⟩ = some (.int .i64 ((rd_T38 t458 x4_1).f1)) := (blk_cell BK465.out 1).trans rfl
                              have hcz69_2 : wr.cell? ⟨gb465, 2, none⟩ = some (.int .i64 ((rd_T38 t458 x4_1).f2)) := (blk_cell BK465.out 2).trans rfl
                              have hcz69_3 : wr.cell? ⟨gb465, 3, none⟩ = some (.int .i64 ((rd_T38 t458 x4_1).f3)) := (blk_cell BK465.out 3).trans rfl
                              have hfz69_0 := blk_frozen BK465.out 0
                              have hfz69_1 := blk_frozen BK465.out 1
                              have hfz69_2 := blk_frozen BK465.out 2
                              have hfz69_3 := blk_frozen BK465.out 3
                              go_wp2_with (first | ((with_reducible refine gate_callee (f := 24) rfl ?_); refine goesL_ (some 69) rfl rfl Try.func24 (by kernel_rfl) rfl #[.int .i64 ((rd_T38 t458 x4_1).f0)] rfl (by (try simp only [List.map_toArray, List.map_cons, List.map_nil]); first | done | rfl | (simp only [List.length_drop, List.length_take]; rfl)) ?_; (with_reducible refine (graph_Ins.calls ((rd_T38 t458 x4_1).f0) t477 _ A63.out).mono ?_); rintro e w' ⟨rfl, ⟨nd, rfl⟩⟩; refine ⟨_, rfl, ?_⟩; have hnb70 := NB456_474.out; have hnc70 := NB474_456.out; have hcz71_0 : wr.cell? ⟨gb456, 0, none⟩ = some (.slice (some ad464) t458.length co8) := (blk_cell BK456.out 0).trans rfl; have hcz71_1 : wr.cell? ⟨gb456, 1, none⟩ = some (.slice Ao10 t461.length co10) := (blk_cell BK456.out 1).trans rfl; have hfz71_0 := blk_frozen BK456.out 0; have hfz71_1 := blk_frozen BK456.out 1) | ((with_reducible refine gate_callee (f := 22) rfl ?_); refine goesL_ (some 77) rfl rfl Try.func22 (by kernel_rfl) rfl #[.agg #[.slice (some ad464) t458.length co8, .slice Ao10 t461.length co10], .agg #[.int .i64 x4_1, .int .i64 x8_4]] rfl (by (try simp only [List.map_toArray, List.map_cons, List.map_nil]); first | done | rfl | (simp only [List.length_drop, List.length_take]; rfl)) ?_; (with_reducible refine (graph_Depth.calls k4 _ _ t458 _ _ t461 x4_1 x8_4 t478 _ ?side1 ?side2 ?side3 ?side4 A65.out).mono ?_); (case side1 => repeat (first | exact (Kd.V_reads' HO_457000.out).2.2 | (with_reducible refine Kd.C_alloc ?_ _) | (with_reducible refine Kd.C_drewN ?_ _) | (with_reducible refine Kd.C_drew ?_))); (case side2 => exact (Kd.V_reads' HO_457000.out).2.1); (case side3 => repeat (first | exact (Kd.V_reads' HO_457001.out).2.2 | (with_reducible refine Kd.C_alloc ?_ _) | (with_reducible refine Kd.C_drewN ?_ _) | (with_reducible refine Kd.C_drew ?_))); (case side4 => exact (Kd.V_reads' HO_457001.out).2.1); rintro e w72 ⟨rfl, hb⟩; refine ⟨_, rfl, ?_⟩; have n0_ := Aside0.mk (Kd.V_below (by (with_reducible repeat (first | apply Kd.V_alloc | apply Kd.V_drewN | apply Kd.V_drew)); exact HO_457000.out) hb); have n1_ := Aside0.mk (Kd.V_below (by (with_reducible repeat (first | apply Kd.V_alloc | apply Kd.V_drewN | apply Kd.V_drew)); exact HO_457001.out) hb); have n2_ := Aside0.mk (blk_below (g := gb456) (o := .cells #[.slice (some ad464) t458.length co8, .slice Ao10 t461.length co10] 30 (0, 0)) (by (with_reducible repeat (first | refine blk_drewN ?_ _ | refine blk_drew ?_ | refine blk_alloc ?_ _)); exact BK456.out) hb); have n3_ := Aside0.mk (blk_below (g := gb465) (o := .cells #[.int .i64 ((rd_T38 t458 x4_1).f0), .int .i64 ((rd_T38 t458 x4_1).f1), .int .i64 ((rd_T38 t458 x4_1).f2), .int .i64 ((rd_T38 t458 x4_1).f3)] 38 (0, 0)) (by (with_reducible repeat (first | refine blk_drewN ?_ _ | refine blk_drew ?_ | refine blk_alloc ?_ _)); exact BK465.out) hb); have n4_ := Aside0.mk (blk_below (g := gb474) (o := .cells #[.int .i64 t467, .int .i64 t468, .int .i64 t469, .int .i64 t470, .int .i64 t471, .int .i64 t472, .int .i64 t473] 51 (0, 0)) (by (with_reducible repeat (first | refine blk_drewN ?_ _ | refine blk_drew ?_ | refine blk_alloc ?_ _)); exact BK474.out) hb); have n5_ := Aside0.mk (below_step (by repeat (first | (with_reducible first | exact HB.out | apply below_alloc | apply pw_below_drewN | apply below_drew1 | refine below_set ?_ GE456.out | refine below_set ?_ GE465.out | refine below_set ?_ GE474.out) | exact HB.out)) hb); clear HO_457000; clear HO_457001; clear BK456; clear BK465; clear BK474; clear HB; have HO_457000 := n0_; have HO_457001 := n1_; have BK456 := n2_; have BK465 := n3_; have BK474 := n4_; have HB := n5_; clear n0_ n1_ n2_ n3_ n4_ n5_; (try clear hb); (try clear hb2); (try clear hk); (try clear hi)))
                              go_roundg k4
                              case measure => have := HK1.out; have := HJ13.out; have := HJ32.out; have := HK4.out; omega
                              case rel => exact ⟨(wrap64 (x8_4 + 1)), (by first | rfl | (simp; done) | (simp [*]; done)), H', ⟨by have := HK1.out; have := HJ13.out; have := HJ32.out; have := HK4.out; omega⟩, ⟨by (with_reducible repeat (first | apply Kd.V_alloc | apply Kd.V_drewN | apply Kd.V_drew)); exact HO_457000.out⟩, ⟨by (with_reducible repeat (first | apply Kd.V_alloc | apply Kd.V_drewN | apply Kd.V_drew)); exact HO_457001.out⟩, ⟨by (with_reducible repeat (first | refine blk_drewN ?_ _ | refine blk_drew ?_ | refine blk_alloc ?_ _)); exact BK456.out⟩, ⟨by (with_reducible repeat (first | refine blk_drewN ?_ _ | refine blk_drew ?_ | refine blk_alloc ?_ _)); exact BK465.out⟩, ⟨by (with_reducible repeat (first | refine blk_drewN ?_ _ | refine blk_drew ?_ | refine blk_alloc ?_ _)); exact BK474.out⟩, ⟨by repeat (first | (with_reducible first | exact HB.out | apply below_alloc | apply pw_below_drewN | apply below_drew1 | refine below_set ?_ GE456.out | refine below_set ?_ GE465.out | refine below_set ?_ GE474.out) | exact HB.out)⟩⟩
                            · rw [if_neg c66] at H
                              have c66b0 : (t478 == t466) = false := beq_eq_false_iff_ne.mpr c66
                              have c66b1 : (t478 != t466) = true := bne_iff_ne.mpr c66
                              obtain rfl := Option.some.inj H
                              have hnb73 := NB465_456.out
                              have hnc73 := NB456_465.out
                              have hnb74 := NB465_474.out
                              have hnc74 := NB474_465.out
                              have hcz75_0 : wr.cell? ⟨gb465, 0, none⟩ = some (.int .i64 ((rd_T38 t458 x4_1).f0)) := (blk_cell BK465.out 0).trans rfl
                              have hcz75_1 : wr.cell? ⟨gb465, 1, none⟩ = some (.int .i64 ((rd_T38 t458 x4_1).f1)) := (blk_cell BK465.out 1).trans rfl
                              have hcz75_2 : wr.cell? ⟨gb465, 2, none⟩ = some (.int .i64 ((rd_T38 t458 x4_1).f2)) := (blk_cell BK465.out 2).trans rfl
                              have hcz75_3 : wr.cell? ⟨gb465, 3, none⟩ = some (.int .i64 ((rd_T38 t458 x4_1).f3)) := (blk_cell BK465.out 3).trans rfl
                              have hfz75_0 := blk_frozen BK465.out 0
                              have hfz75_1 := blk_frozen BK465.out 1
                              have hfz75_2 := blk_frozen BK465.out 2
                              have hfz75_3 := blk_frozen BK465.out 3
                              go_wp2_with (first | ((with_reducible refine gate_callee (f := 24) rfl ?_); refine goesL_ (some 69) rfl rfl Try.func24 (by kernel_rfl) rfl #[.int .i64 ((rd_T38 t458 x4_1).f0)] rfl (by (try simp only [List.map_toArray, List.map_cons, List.map_nil]); first | done | rfl | (simp only [List.length_drop, List.length_take]; rfl)) ?_; (with_reducible refine (graph_Ins.calls ((rd_T38 t458 x4_1).f0) t477 _ A63.out).mono ?_); rintro e w' ⟨rfl, ⟨nd, rfl⟩⟩; refine ⟨_, rfl, ?_⟩; have hnb76 := NB456_474.out; have hnc76 := NB474_456.out; have hcz77_0 : wr.cell? ⟨gb456, 0, none⟩ = some (.slice (some ad464) t458.length co8) := (blk_cell BK456.out 0).trans rfl; have hcz77_1 : wr.cell? ⟨gb456, 1, none⟩ = some (.slice Ao10 t461.length co10) := (blk_cell BK456.out 1).trans rfl; have hfz77_0 := blk_frozen BK456.out 0; have hfz77_1 := blk_frozen BK456.out 1) | ((with_reducible refine gate_callee (f := 22) rfl ?_); refine goesL_ (some 77) rfl rfl Try.func22 (by kernel_rfl) rfl #[.agg #[.slice (some ad464) t458.length co8, .slice Ao10 t461.length co10], .agg #[.int .i64 x4_1, .int .i64 x8_4]] rfl (by (try simp only [List.map_toArray, List.map_cons, List.map_nil]); first | done | rfl | (simp only [List.length_drop, List.length_take]; rfl)) ?_; (with_reducible refine (graph_Depth.calls k4 _ _ t458 _ _ t461 x4_1 x8_4 t478 _ ?side1 ?side2 ?side3 ?side4 A65.out).mono ?_); (case side1 => repeat (first | exact (Kd.V_reads' HO_457000.out).2.2 | (with_reducible refine Kd.C_alloc ?_ _) | (with_reducible refine Kd.C_drewN ?_ _) | (with_reducible refine Kd.C_drew ?_))); (case side2 => exact (Kd.V_reads' HO_457000.out).2.1); (case side3 => repeat (first | exact (Kd.V_reads' HO_457001.out).2.2 | (with_reducible refine Kd.C_alloc ?_ _) | (with_reducible refine Kd.C_drewN ?_ _) | (with_reducible refine Kd.C_drew ?_))); (case side4 => exact (Kd.V_reads' HO_457001.out).2.1); rintro e w78 ⟨rfl, hb⟩; refine ⟨_, rfl, ?_⟩; have n0_ := Aside0.mk (Kd.V_below (by (with_reducible repeat (first | apply Kd.V_alloc | apply Kd.V_drewN | apply Kd.V_drew)); exact HO_457000.out) hb); have n1_ := Aside0.mk (Kd.V_below (by (with_reducible repeat (first | apply Kd.V_alloc | apply Kd.V_drewN | apply Kd.V_drew)); exact HO_457001.out) hb); have n2_ := Aside0.mk (blk_below (g := gb456) (o := .cells #[.slice (some ad464) t458.length co8, .slice Ao10 t461.length co10] 30 (0, 0)) (by (with_reducible repeat (first | refine blk_drewN ?_ _ | refine blk_drew ?_ | refine blk_alloc ?_ _)); exact BK456.out) hb); have n3_ := Aside0.mk (blk_below (g := gb465) (o := .cells #[.int .i64 ((rd_T38 t458 x4_1).f0), .int .i64 ((rd_T38 t458 x4_1).f1), .int .i64 ((rd_T38 t458 x4_1).f2), .int .i64 ((rd_T38 t458 x4_1).f3)] 38 (0, 0)) (by (with_reducible repeat (first | refine blk_drewN ?_ _ | refine blk_drew ?_ | refine blk_alloc ?_ _)); exact BK465.out) hb); have n4_ := Aside0.mk (blk_below (g := gb474) (o := .cells #[.int .i64 t467, .int .i64 t468, .int .i64 t469, .int .i64 t470, .int .i64 t471, .int .i64 t472, .int .i64 t473] 51 (0, 0)) (by (with_reducible repeat (first | refine blk_drewN ?_ _ | refine blk_drew ?_ | refine blk_alloc ?_ _)); exact BK474.out) hb); have n5_ := Aside0.mk (below_step (by repeat (first | (with_reducible first | exact HB.out | apply below_alloc | apply pw_below_drewN | apply below_drew1 | refine below_set ?_ GE456.out | refine below_set ?_ GE465.out | refine below_set ?_ GE474.out) | exact HB.out)) hb); clear HO_457000; clear HO_457001; clear BK456; clear BK465; clear BK474; clear HB; have HO_457000 := n0_; have HO_457001 := n1_; have BK456 := n2_; have BK465 := n3_; have BK474 := n4_; have HB := n5_; clear n0_ n1_ n2_ n3_ n4_ n5_; (try clear hb); (try clear hb2); (try clear hk); (try clear hi)))
                              go_ret
                              exact ⟨by first | rfl | (simp [errW_none, errW_some] <;> rfl) | (simp [*, errW_none, errW_some] <;> rfl), by repeat (first | (with_reducible first | exact HB.out | apply below_alloc | apply pw_below_drewN | apply below_drew1 | refine below_set ?_ GE456.out | refine below_set ?_ GE465.out | refine below_set ?_ GE474.out) | exact HB.out)⟩
                          · rw [if_neg c64] at H
                            have c64b0 : decide (x8_4 < t477) = false := decide_eq_false c64
                            clear c64
                            replace H := Option.bind_eq_some_iff.mp H
                            obtain ⟨t479, A790, H⟩ := H
                            replace H : ((graph_Depth.f k4 t458 t461 x4_1 (-1)).bind fun t480 => (if (t479 != (t480 == ((rd_T38 t458 x4_1).f3))) = true then (some false) else (meanderlaw08_GraphDepths.l0 k4 t457 (wrap64 (x4_1 + 1)) t458 t461))) = some r := H
                            have A79 := Aside0.mk A790
                            clear A790
                            replace H := Option.bind_eq_some_iff.mp H
                            obtain ⟨t480, A800, H⟩ := H
                            replace H : (if (t479 != (t480 == ((rd_T38 t458 x4_1).f3))) = true then (some false) else (meanderlaw08_GraphDepths.l0 k4 t457 (wrap64 (x4_1 + 1)) t458 t461)) = some r := H
                            have A80 := Aside0.mk A800
                            clear A800
                            by_cases c81 : (t479 != (t480 == ((rd_T38 t458 x4_1).f3))) = true
                            · rw [if_pos c81] at H
                              have c81b0 : (t479 != (t480 == ((rd_T38 t458 x4_1).f3))) = true := c81
                              (try (have c81b1 : decide (t479 = (t480 == ((rd_T38 t458 x4_1).f3))) = false := by simpa using c81))
                              (try (have c81b2 : (t479 == (t480 == ((rd_T38 t458 x4_1).f3))) = false := by simpa using c81))
                              (try (have c81b3 : ¬ (t479 = (t480 == ((rd_T38 t458 x4_1).f3))) := by simpa using c81))
                              clear c81
                              obtain rfl := Option.some.inj H
                              have hnb82 := NB465_456.out
                              have hnc82 := NB456_465.out
                              have hnb83 := NB465_474.out
                              have hnc83 := NB474_465.out
                              have hcz84_0 : wr.cell? ⟨gb465, 0, none⟩ = some (.int .i64 ((rd_T38 t458 x4_1).f0)) := (blk_cell BK465.out 0).trans rfl
                              have hcz84_1 : wr.cell? ⟨gb465, 1, none⟩ = some (.int .i64 ((rd_T38 t458 x4_1).f1)) := (blk_cell BK465.out 1).trans rfl
                              have hcz84_2 : wr.cell? ⟨gb465, 2, none⟩ = some (.int .i64 ((rd_T38 t458 x4_1).f2)) := (blk_cell BK465.out 2).trans rfl
                              have hcz84_3 : wr.cell? ⟨gb465, 3, none⟩ = some (.int .i64 ((rd_T38 t458 x4_1).f3)) := (blk_cell BK465.out 3).trans rfl
                              have hfz84_0 := blk_frozen BK465.out 0
                              have hfz84_1 := blk_frozen BK465.out 1
                              have hfz84_2 := blk_frozen BK465.out 2
                              have hfz84_3 := blk_frozen BK465.out 3
                              try go_wp2_with (first | ((with_reducible refine gate_callee (f := 24) rfl ?_); refine goesL_ (some 69) rfl rfl Try.func24 (by kernel_rfl) rfl #[.int .i64 ((rd_T38 t458 x4_1).f0)] rfl (by (try simp only [List.map_toArray, List.map_cons, List.map_nil]); first | done | rfl | (simp only [List.length_drop, List.length_take]; rfl)) ?_; (with_reducible refine (graph_Ins.calls ((rd_T38 t458 x4_1).f0) t477 _ A63.out).mono ?_); rintro e w' ⟨rfl, ⟨nd, rfl⟩⟩; refine ⟨_, rfl, ?_⟩))
                              (try (rw [drewN_self wr]; generalize hq_ : World.drewN wr _ = wr; have n0_ : Aside0 (Kd.V k38 38 wr w.heap.size (fun k_ => k_ ≠ gb456 ∧ k_ ≠ gb465 ∧ k_ ≠ gb474) (.slice (some ad464) t458.length co8) t458) := ⟨by rw [← hq_]; exact (by (with_reducible repeat (first | apply Kd.V_alloc | apply Kd.V_drewN | apply Kd.V_drew)); exact HO_457000.out)⟩; have n1_ : Aside0 (Kd.V k35 35 wr w.heap.size (fun k_ => k_ ≠ gb456 ∧ k_ ≠ gb465 ∧ k_ ≠ gb474) (.slice Ao10 t461.length co10) t461) := ⟨by rw [← hq_]; exact (by (with_reducible repeat (first | apply Kd.V_alloc | apply Kd.V_drewN | apply Kd.V_drew)); exact HO_457001.out)⟩; have n2_ : Aside0 (wr.heap[gb456]? = some (.cells #[.slice (some ad464) t458.length co8, .slice Ao10 t461.length co10] 30 (0, 0))) := ⟨by rw [← hq_]; exact (by (with_reducible repeat (first | refine blk_drewN ?_ _ | refine blk_drew ?_ | refine blk_alloc ?_ _)); exact BK456.out)⟩; have n3_ : Aside0 (wr.heap[gb465]? = some (.cells #[.int .i64 ((rd_T38 t458 x4_1).f0), .int .i64 ((rd_T38 t458 x4_1).f1), .int .i64 ((rd_T38 t458 x4_1).f2), .int .i64 ((rd_T38 t458 x4_1).f3)] 38 (0, 0))) := ⟨by rw [← hq_]; exact (by (with_reducible repeat (first | refine blk_drewN ?_ _ | refine blk_drew ?_ | refine blk_alloc ?_ _)); exact BK465.out)⟩; have n4_ : Aside0 (wr.heap[gb474]? = some (.cells #[.int .i64 t467, .int .i64 t468, .int .i64 t469, .int .i64 t470, .int .i64 t471, .int .i64 t472, .int .i64 t473] 51 (0, 0))) := ⟨by rw [← hq_]; exact (by (with_reducible repeat (first | refine blk_drewN ?_ _ | refine blk_drew ?_ | refine blk_alloc ?_ _)); exact BK474.out)⟩; have n5_ : Aside0 (Below w.heap.size w wr) := ⟨by rw [← hq_]; exact (by repeat (first | (with_reducible first | exact HB.out | apply below_alloc | apply pw_below_drewN | apply below_drew1 | refine below_set ?_ GE456.out | refine below_set ?_ GE465.out | refine below_set ?_ GE474.out) | exact HB.out))⟩; clear HO_457000 HO_457001 BK456 BK465 BK474 HB hq_; have HO_457000 := n0_; have HO_457001 := n1_; have BK456 := n2_; have BK465 := n3_; have BK474 := n4_; have HB := n5_; clear n0_ n1_ n2_ n3_ n4_ n5_))
                              have n0_ := Aside0.mk (Kd.V_drew HO_457000.out)
                              have n1_ := Aside0.mk (Kd.V_drew HO_457001.out)
                              have n2_ := Aside0.mk (blk_drew BK456.out)
                              have n3_ := Aside0.mk (blk_drew BK465.out)
                              have n4_ := Aside0.mk (blk_drew BK474.out)
                              have n5_ := Aside0.mk (below_drew1 HB.out)
                              clear HO_457000
                              clear HO_457001
                              clear BK456
                              clear BK465
                              clear BK474
                              clear HB
                              have HO_457000 := n0_
                              have HO_457001 := n1_
                              have BK456 := n2_
                              have BK465 := n3_
                              have BK474 := n4_
                              have HB := n5_
                              clear n0_ n1_ n2_ n3_ n4_ n5_
                              refine start_ (n := 11) (S := fun w' => w'.cell? ⟨gb465, 0, none⟩ = some (.int .i64 ((rd_T38 t458 x4_1).f0)) ∧ w'.cell? ⟨gb465, 1, none⟩ = some (.int .i64 ((rd_T38 t458 x4_1).f1)) ∧ w'.cell? ⟨gb465, 2, none⟩ = some (.int .i64 ((rd_T38 t458 x4_1).f2)) ∧ w'.cell? ⟨gb465, 3, none⟩ = some (.int .i64 ((rd_T38 t458 x4_1).f3)) ∧ w'.cell? ⟨gb456, 0, none⟩ = some (.slice (some ad464) t458.length co8) ∧ w'.cell? ⟨gb456, 1, none⟩ = some (.slice Ao10 t461.length co10)) (ds := []) #[false, false, false, false, false, false, false, false, false, false, false] (by kernel_rfl) rfl rfl ⟨(blk_cell BK465.out 0).trans rfl, (blk_cell BK465.out 1).trans rfl, (blk_cell BK465.out 2).trans rfl, (blk_cell BK465.out 3).trans rfl, (blk_cell BK456.out 0).trans rfl, (blk_cell BK456.out 1).trans rfl⟩ (fun hHeld => ?_); refine with_tabW meanderlaw08_GraphDepths.tab17 meanderlaw08_GraphDepths.bits17 (fun HT_ HW_ => ?_)
                              generalize wr.drew = w85 at HO_457000 HO_457001 BK456 BK465 BK474 HB hHeld ⊢
                              refine pure_ (i := 0) (N := some 80) (v := ?_) (a' := ?_) #[true, false, false, false, false, false, false, false, false, false, false] rfl rfl (any_of HT_.out (by kernel_rfl)) (fun _ _ _ h => h) (Or.inl ⟨by rfl, ?_⟩) ?_ ?_
                              rotate_left
                              · intro w'
                                go_simp
                                with_reducible rfl
                              rotate_left
                              · simp only [Act.put, List.setIfInBounds_toArray, List.set_cons_zero, List.set_cons_succ, i64_w, i32_w]
                                rfl
                              refine pure_ (i := 4) (N := some 84) (v := ?_) (a' := ?_) #[true, false, false, false, true, false, false, false, false, false, false] rfl rfl (any_of HT_.out (by kernel_rfl)) (fun _ _ _ h => h) (Or.inl ⟨by rfl, ?_⟩) ?_ ?_
                              rotate_left
                              · intro w'
                                go_simp
                                with_reducible rfl
                              rotate_left
                              · simp only [Act.put, List.setIfInBounds_toArray, List.set_cons_zero, List.set_cons_succ, i64_w, i32_w]
                                rfl
                              refine pure_ (i := 5) (N := some 85) (v := ?_) (a' := ?_) #[true, false, false, false, true, true, false, false, false, false, false] rfl rfl (any_of HT_.out (by kernel_rfl)) (fun _ _ _ h => h) (Or.inl ⟨by rfl, ?_⟩) ?_ ?_
                              rotate_left
                              · intro w'
                                go_simp
                                with_reducible rfl
                              rotate_left
                              · simp only [Act.put, List.setIfInBounds_toArray, List.set_cons_zero, List.set_cons_succ, i64_w, i32_w]
                                rfl
                              refine pure_ (i := 7) (N := some 87) (v := ?_) (a' := ?_) #[true, false, false, false, true, true, false, true, false, false, false] rfl rfl (any_of HT_.out (by kernel_rfl)) (fun _ _ _ h => h) (Or.inl ⟨by rfl, ?_⟩) ?_ ?_
                              rotate_left
                              · intro w'
                                go_simp
                                with_reducible rfl
                              rotate_left
                              · simp only [Act.put, List.setIfInBounds_toArray, List.set_cons_zero, List.set_cons_succ, i64_w, i32_w]
                                rfl
                              refine take_ (i := 1) (N := some 81) (v := ?_) (a' := ?_) #[true, true, false, false, true, true, false, true, false, false, false] rfl rfl (take_ofW HT_.out HW_.out (by kernel_rfl)) (fun _ _ _ h => h) (Or.inl ⟨by rfl, ?_⟩) hHeld ?_ ?_
                              rotate_left
                              · rintro w' ⟨s0, s1, s2, s3, s4, s5⟩
                                go_simp
                                with_reducible rfl
                              rotate_left
                              · simp only [Act.put, List.setIfInBounds_toArray, List.set_cons_zero, List.set_cons_succ, i64_w, i32_w]
                                rfl
                              refine take_ (i := 3) (N := some 83) (v := ?_) (a' := ?_) #[true, true, false, true, true, true, false, true, false, false, false] rfl rfl (take_ofW HT_.out HW_.out (by kernel_rfl)) (fun _ _ _ h => h) (Or.inl ⟨by rfl, ?_⟩) hHeld ?_ ?_
                              rotate_left
                              · rintro w' ⟨s0, s1, s2, s3, s4, s5⟩
                                go_simp
                                with_reducible rfl
                              rotate_left
                              · simp only [Act.put, List.setIfInBounds_toArray, List.set_cons_zero, List.set_cons_succ, i64_w, i32_w]
                                rfl
                              refine take_ (i := 8) (N := some 88) (v := ?_) (a' := ?_) #[true, true, false, true, true, true, false, true, true, false, false] rfl rfl (take_ofW HT_.out HW_.out (by kernel_rfl)) (fun _ _ _ h => h) (Or.inl ⟨by rfl, ?_⟩) hHeld ?_ ?_
                              rotate_left
                              · rintro w' ⟨s0, s1, s2, s3, s4, s5⟩
                                go_simp
                                with_reducible rfl
                              rotate_left
                              · simp only [Act.put, List.setIfInBounds_toArray, List.set_cons_zero, List.set_cons_succ, i64_w, i32_w]
                                rfl
                              refine one_ (i := 2) (N := some 82) #[true, true, true, true, true, true, false, true, true, false, false] rfl rfl (one_of HT_.out (by kernel_rfl)) (by decide) (fun K hK => ?_)
                              refine goes_ Try.func25 (by kernel_rfl) rfl #[.int .i64 ((rd_T38 t458 x4_1).f0)] (by rfl) rfl rfl (by (try simp only [List.map_toArray, List.map_cons, List.map_nil]); first | done | rfl | (simp only [List.length_drop, List.length_take]; rfl)) ?_
                              with_reducible refine (graph_HasOut.calls ((rd_T38 t458 x4_1).f0) t479 _ A79.out).mono ?_
                              rintro e w' ⟨rfl, ⟨nd, rfl⟩⟩
                              refine ⟨_, rfl, ?_⟩
                              refine hK.out _ _ ⟨(blk_cell BK465.out 0).trans rfl, (blk_cell BK465.out 1).trans rfl, (blk_cell BK465.out 2).trans rfl, (blk_cell BK465.out 3).trans rfl, (blk_cell BK456.out 0).trans rfl, (blk_cell BK456.out 1).trans rfl⟩ (fun hHeld => ?_)
                              clear hK K
                              refine norm_ (a' := ?_) ?_ ?_
                              rotate_left
                              · show Act.put _ (some 82) _ = _
                                simp only [Act.put, List.setIfInBounds_toArray, List.set_cons_zero, List.set_cons_succ, i64_w, i32_w]
                                rfl
                              refine one_ (i := 6) (N := some 86) #[true, true, true, true, true, true, true, true, true, false, false] rfl rfl (one_of HT_.out (by kernel_rfl)) (by decide) (fun K hK => ?_)
                              refine goes_ Try.func22 (by kernel_rfl) rfl #[.agg #[.slice (some ad464) t458.length co8, .slice Ao10 t461.length co10], .agg #[.int .i64 x4_1, .int .i64 (-1)]] (by rfl) rfl rfl (by (try simp only [List.map_toArray, List.map_cons, List.map_nil]); first | done | rfl | (simp only [List.length_drop, List.length_take]; rfl)) ?_
                              with_reducible refine (graph_Depth.calls k4 _ _ t458 _ _ t461 x4_1 (-1) t480 _ ?side1 ?side2 ?side3 ?side4 A80.out).mono ?_
                              (case side1 => repeat (first | exact (Kd.V_reads' HO_457000.out).2.2 | (with_reducible refine Kd.C_alloc ?_ _) | (with_reducible refine Kd.C_drewN ?_ _) | (with_reducible refine Kd.C_drew ?_)))
                              (case side2 => exact (Kd.V_reads' HO_457000.out).2.1)
                              (case side3 => repeat (first | exact (Kd.V_reads' HO_457001.out).2.2 | (with_reducible refine Kd.C_alloc ?_ _) | (with_reducible refine Kd.C_drewN ?_ _) | (with_reducible refine Kd.C_drew ?_)))
                              (case side4 => exact (Kd.V_reads' HO_457001.out).2.1)
                              rintro e w86 ⟨rfl, hb⟩
                              refine ⟨_, rfl, ?_⟩
                              have n0_ := Aside0.mk (Kd.V_below (by (with_reducible repeat (first | apply Kd.V_alloc | apply Kd.V_drewN | apply Kd.V_drew)); exact HO_457000.out) hb)
                              have n1_ := Aside0.mk (Kd.V_below (by (with_reducible repeat (first | apply Kd.V_alloc | apply Kd.V_drewN | apply Kd.V_drew)); exact HO_457001.out) hb)
                              have n2_ := Aside0.mk (blk_below (g := gb456) (o := .cells #[.slice (some ad464) t458.length co8, .slice Ao10 t461.length co10] 30 (0, 0)) (by (with_reducible repeat (first | refine blk_drewN ?_ _ | refine blk_drew ?_ | refine blk_alloc ?_ _)); exact BK456.out) hb)
                              have n3_ := Aside0.mk (blk_below (g := gb465) (o := .cells #[.int .i64 ((rd_T38 t458 x4_1).f0), .int .i64 ((rd_T38 t458 x4_1).f1), .int .i64 ((rd_T38 t458 x4_1).f2), .int .i64 ((rd_T38 t458 x4_1).f3)] 38 (0, 0)) (by (with_reducible repeat (first | refine blk_drewN ?_ _ | refine blk_drew ?_ | refine blk_alloc ?_ _)); exact BK465.out) hb)
                              have n4_ := Aside0.mk (blk_below (g := gb474) (o := .cells #[.int .i64 t467, .int .i64 t468, .int .i64 t469, .int .i64 t470, .int .i64 t471, .int .i64 t472, .int .i64 t473] 51 (0, 0)) (by (with_reducible repeat (first | refine blk_drewN ?_ _ | refine blk_drew ?_ | refine blk_alloc ?_ _)); exact BK474.out) hb)
                              have n5_ := Aside0.mk (below_step (by repeat (first | (with_reducible first | exact HB.out | apply below_alloc | apply pw_below_drewN | apply below_drew1 | refine below_set ?_ GE456.out | refine below_set ?_ GE465.out | refine below_set ?_ GE474.out) | exact HB.out)) hb)
                              clear HO_457000
                              clear HO_457001
                              clear BK456
                              clear BK465
                              clear BK474
                              clear HB
                              have HO_457000 := n0_
                              have HO_457001 := n1_
                              have BK456 := n2_
                              have BK465 := n3_
                              have BK474 := n4_
                              have HB := n5_
                              clear n0_ n1_ n2_ n3_ n4_ n5_
                              (try clear hb)
                              (try clear hb2)
                              (try clear hk)
                              (try clear hi)
                              refine hK.out _ _ ⟨(blk_cell BK465.out 0).trans rfl, (blk_cell BK465.out 1).trans rfl, (blk_cell BK465.out 2).trans rfl, (blk_cell BK465.out 3).trans rfl, (blk_cell BK456.out 0).trans rfl, (blk_cell BK456.out 1).trans rfl⟩ (fun hHeld => ?_)
                              clear hK K
                              refine norm_ (a' := ?_) ?_ ?_
                              rotate_left
                              · show Act.put _ (some 86) _ = _
                                simp only [Act.put, List.setIfInBounds_toArray, List.set_cons_zero, List.set_cons_succ, i64_w, i32_w]
                                rfl
                              refine pure_ (i := 9) (N := some 89) (v := ?_) (a' := ?_) #[true, true, true, true, true, true, true, true, true, true, false] rfl rfl (any_of HT_.out (by kernel_rfl)) (fun _ _ _ h => h) (Or.inl ⟨by rfl, ?_⟩) ?_ ?_
                              rotate_left
                              · intro w'
                                go_simp
                                with_reducible rfl
                              rotate_left
                              · simp only [Act.put, List.setIfInBounds_toArray, List.set_cons_zero, List.set_cons_succ, i64_w, i32_w]
                                rfl
                              refine pure_ (i := 10) (N := some 90) (v := ?_) (a' := ?_) #[true, true, true, true, true, true, true, true, true, true, true] rfl rfl (any_of HT_.out (by kernel_rfl)) (fun _ _ _ h => h) (Or.inl ⟨by rfl, ?_⟩) ?_ ?_
                              rotate_left
                              · intro w'
                                go_simp
                                with_reducible rfl
                              rotate_left
                              · simp only [Act.put, List.setIfInBounds_toArray, List.set_cons_zero, List.set_cons_succ, i64_w, i32_w]
                                rfl
                              refine done_ (done_of HT_.out (by kernel_rfl)) ?_
                              try go_wp2
                              go_ret
                              exact ⟨by first | rfl | (simp [errW_none, errW_some] <;> rfl) | (simp [*, errW_none, errW_some] <;> rfl), by repeat (first | (with_reducible first | exact HB.out | apply below_alloc | apply pw_below_drewN | apply below_drew1 | refine below_set ?_ GE456.out | refine below_set ?_ GE465.out | refine below_set ?_ GE474.out) | exact HB.out)⟩
                            · rw [if_neg c81] at H
                              have c81b0 : (t479 != (t480 == ((rd_T38 t458 x4_1).f3))) = false := by simpa using c81
                              (try (have c81b1 : decide (t479 = (t480 == ((rd_T38 t458 x4_1).f3))) = true := by simpa using c81))
                              (try (have c81b2 : (t479 == (t480 == ((rd_T38 t458 x4_1).f3))) = true := by simpa using c81))
                              clear c81
                              have H' := Aside0.mk H
                              clear H
                              have hnb87 := NB465_456.out
                              have hnc87 := NB456_465.out
                              have hnb88 := NB465_474.out
                              have hnc88 := NB474_465.out
                              have hcz89_0 : wr.cell? ⟨gb465, 0, none⟩ = some (.int .i64 ((rd_T38 t458 x4_1).f0)) := (blk_cell BK465.out 0).trans rfl
                              have hcz89_1 : wr.cell? ⟨gb465, 1, none⟩ = some (.int .i64 ((rd_T38 t458 x4_1).f1)) := (blk_cell BK465.out 1).trans rfl
                              have hcz89_2 : wr.cell? ⟨gb465, 2, none⟩ = some (.int .i64 ((rd_T38 t458 x4_1).f2)) := (blk_cell BK465.out 2).trans rfl
                              have hcz89_3 : wr.cell? ⟨gb465, 3, none⟩ = some (.int .i64 ((rd_T38 t458 x4_1).f3)) := (blk_cell BK465.out 3).trans rfl
                              have hfz89_0 := blk_frozen BK465.out 0
                              have hfz89_1 := blk_frozen BK465.out 1
                              have hfz89_2 := blk_frozen BK465.out 2
                              have hfz89_3 := blk_frozen BK465.out 3
                              try go_wp2_with (first | ((with_reducible refine gate_callee (f := 24) rfl ?_); refine goesL_ (some 69) rfl rfl Try.func24 (by kernel_rfl) rfl #[.int .i64 ((rd_T38 t458 x4_1).f0)] rfl (by (try simp only [List.map_toArray, List.map_cons, List.map_nil]); first | done | rfl | (simp only [List.length_drop, List.length_take]; rfl)) ?_; (with_reducible refine (graph_Ins.calls ((rd_T38 t458 x4_1).f0) t477 _ A63.out).mono ?_); rintro e w' ⟨rfl, ⟨nd, rfl⟩⟩; refine ⟨_, rfl, ?_⟩))
                              (try (rw [drewN_self wr]; generalize hq_ : World.drewN wr _ = wr; have n0_ : Aside0 (Kd.V k38 38 wr w.heap.size (fun k_ => k_ ≠ gb456 ∧ k_ ≠ gb465 ∧ k_ ≠ gb474) (.slice (some ad464) t458.length co8) t458) := ⟨by rw [← hq_]; exact (by (with_reducible repeat (first | apply Kd.V_alloc | apply Kd.V_drewN | apply Kd.V_drew)); exact HO_457000.out)⟩; have n1_ : Aside0 (Kd.V k35 35 wr w.heap.size (fun k_ => k_ ≠ gb456 ∧ k_ ≠ gb465 ∧ k_ ≠ gb474) (.slice Ao10 t461.length co10) t461) := ⟨by rw [← hq_]; exact (by (with_reducible repeat (first | apply Kd.V_alloc | apply Kd.V_drewN | apply Kd.V_drew)); exact HO_457001.out)⟩; have n2_ : Aside0 (wr.heap[gb456]? = some (.cells #[.slice (some ad464) t458.length co8, .slice Ao10 t461.length co10] 30 (0, 0))) := ⟨by rw [← hq_]; exact (by (with_reducible repeat (first | refine blk_drewN ?_ _ | refine blk_drew ?_ | refine blk_alloc ?_ _)); exact BK456.out)⟩; have n3_ : Aside0 (wr.heap[gb465]? = some (.cells #[.int .i64 ((rd_T38 t458 x4_1).f0), .int .i64 ((rd_T38 t458 x4_1).f1), .int .i64 ((rd_T38 t458 x4_1).f2), .int .i64 ((rd_T38 t458 x4_1).f3)] 38 (0, 0))) := ⟨by rw [← hq_]; exact (by (with_reducible repeat (first | refine blk_drewN ?_ _ | refine blk_drew ?_ | refine blk_alloc ?_ _)); exact BK465.out)⟩; have n4_ : Aside0 (wr.heap[gb474]? = some (.cells #[.int .i64 t467, .int .i64 t468, .int .i64 t469, .int .i64 t470, .int .i64 t471, .int .i64 t472, .int .i64 t473] 51 (0, 0))) := ⟨by rw [← hq_]; exact (by (with_reducible repeat (first | refine blk_drewN ?_ _ | refine blk_drew ?_ | refine blk_alloc ?_ _)); exact BK474.out)⟩; have n5_ : Aside0 (Below w.heap.size w wr) := ⟨by rw [← hq_]; exact (by repeat (first | (with_reducible first | exact HB.out | apply below_alloc | apply pw_below_drewN | apply below_drew1 | refine below_set ?_ GE456.out | refine below_set ?_ GE465.out | refine below_set ?_ GE474.out) | exact HB.out))⟩; clear HO_457000 HO_457001 BK456 BK465 BK474 HB hq_; have HO_457000 := n0_; have HO_457001 := n1_; have BK456 := n2_; have BK465 := n3_; have BK474 := n4_; have HB := n5_; clear n0_ n1_ n2_ n3_ n4_ n5_))
                              have n0_ := Aside0.mk (Kd.V_drew HO_457000.out)
                              have n1_ := Aside0.mk (Kd.V_drew HO_457001.out)
                              have n2_ := Aside0.mk (blk_drew BK456.out)
                              have n3_ := Aside0.mk (blk_drew BK465.out)
                              have n4_ := Aside0.mk (blk_drew BK474.out)
                              have n5_ := Aside0.mk (below_drew1 HB.out)
                              clear HO_457000
                              clear HO_457001
                              clear BK456
                              clear BK465
                              clear BK474
                              clear HB
                              have HO_457000 := n0_
                              have HO_457001 := n1_
                              have BK456 := n2_
                              have BK465 := n3_
                              have BK474 := n4_
                              have HB := n5_
                              clear n0_ n1_ n2_ n3_ n4_ n5_
                              refine start_ (n := 11) (S := fun w' => w'.cell? ⟨gb465, 0, none⟩ = some (.int .i64 ((rd_T38 t458 x4_1).f0)) ∧ w'.cell? ⟨gb465, 1, none⟩ = some (.int .i64 ((rd_T38 t458 x4_1).f1)) ∧ w'.cell? ⟨gb465, 2, none⟩ = some (.int .i64 ((rd_T38 t458 x4_1).f2)) ∧ w'.cell? ⟨gb465, 3, none⟩ = some (.int .i64 ((rd_T38 t458 x4_1).f3)) ∧ w'.cell? ⟨gb456, 0, none⟩ = some (.slice (some ad464) t458.length co8) ∧ w'.cell? ⟨gb456, 1, none⟩ = some (.slice Ao10 t461.length co10)) (ds := []) #[false, false, false, false, false, false, false, false, false, false, false] (by kernel_rfl) rfl rfl ⟨(blk_cell BK465.out 0).trans rfl, (blk_cell BK465.out 1).trans rfl, (blk_cell BK465.out 2).trans rfl, (blk_cell BK465.out 3).trans rfl, (blk_cell BK456.out 0).trans rfl, (blk_cell BK456.out 1).trans rfl⟩ (fun hHeld => ?_); refine with_tabW meanderlaw08_GraphDepths.tab17 meanderlaw08_GraphDepths.bits17 (fun HT_ HW_ => ?_)
                              generalize wr.drew = w90 at HO_457000 HO_457001 BK456 BK465 BK474 HB hHeld ⊢
                              refine pure_ (i := 0) (N := some 80) (v := ?_) (a' := ?_) #[true, false, false, false, false, false, false, false, false, false, false] rfl rfl (any_of HT_.out (by kernel_rfl)) (fun _ _ _ h => h) (Or.inl ⟨by rfl, ?_⟩) ?_ ?_
                              rotate_left
                              · intro w'
                                go_simp
                                with_reducible rfl
                              rotate_left
                              · simp only [Act.put, List.setIfInBounds_toArray, List.set_cons_zero, List.set_cons_succ, i64_w, i32_w]
                                rfl
                              refine pure_ (i := 4) (N := some 84) (v := ?_) (a' := ?_) #[true, false, false, false, true, false, false, false, false, false, false] rfl rfl (any_of HT_.out (by kernel_rfl)) (fun _ _ _ h => h) (Or.inl ⟨by rfl, ?_⟩) ?_ ?_
                              rotate_left
                              · intro w'
                                go_simp
                                with_reducible rfl
                              rotate_left
                              · simp only [Act.put, List.setIfInBounds_toArray, List.set_cons_zero, List.set_cons_succ, i64_w, i32_w]
                                rfl
                              refine pure_ (i := 5) (N := some 85) (v := ?_) (a' := ?_) #[true, false, false, false, true, true, false, false, false, false, false] rfl rfl (any_of HT_.out (by kernel_rfl)) (fun _ _ _ h => h) (Or.inl ⟨by rfl, ?_⟩) ?_ ?_
                              rotate_left
                              · intro w'
                                go_simp
                                with_reducible rfl
                              rotate_left
                              · simp only [Act.put, List.setIfInBounds_toArray, List.set_cons_zero, List.set_cons_succ, i64_w, i32_w]
                                rfl
                              refine pure_ (i := 7) (N := some 87) (v := ?_) (a' := ?_) #[true, false, false, false, true, true, false, true, false, false, false] rfl rfl (any_of HT_.out (by kernel_rfl)) (fun _ _ _ h => h) (Or.inl ⟨by rfl, ?_⟩) ?_ ?_
                              rotate_left
                              · intro w'
                                go_simp
                                with_reducible rfl
                              rotate_left
                              · simp only [Act.put, List.setIfInBounds_toArray, List.set_cons_zero, List.set_cons_succ, i64_w, i32_w]
                                rfl
                              refine take_ (i := 1) (N := some 81) (v := ?_) (a' := ?_) #[true, true, false, false, true, true, false, true, false, false, false] rfl rfl (take_ofW HT_.out HW_.out (by kernel_rfl)) (fun _ _ _ h => h) (Or.inl ⟨by rfl, ?_⟩) hHeld ?_ ?_
                              rotate_left
                              · rintro w' ⟨s0, s1, s2, s3, s4, s5⟩
                                go_simp
                                with_reducible rfl
                              rotate_left
                              · simp only [Act.put, List.setIfInBounds_toArray, List.set_cons_zero, List.set_cons_succ, i64_w, i32_w]
                                rfl
                              refine take_ (i := 3) (N := some 83) (v := ?_) (a' := ?_) #[true, true, false, true, true, true, false, true, false, false, false] rfl rfl (take_ofW HT_.out HW_.out (by kernel_rfl)) (fun _ _ _ h => h) (Or.inl ⟨by rfl, ?_⟩) hHeld ?_ ?_
                              rotate_left
                              · rintro w' ⟨s0, s1, s2, s3, s4, s5⟩
                                go_simp
                                with_reducible rfl
                              rotate_left
                              · simp only [Act.put, List.setIfInBounds_toArray, List.set_cons_zero, List.set_cons_succ, i64_w, i32_w]
                                rfl
                              refine take_ (i := 8) (N := some 88) (v := ?_) (a' := ?_) #[true, true, false, true, true, true, false, true, true, false, false] rfl rfl (take_ofW HT_.out HW_.out (by kernel_rfl)) (fun _ _ _ h => h) (Or.inl ⟨by rfl, ?_⟩) hHeld ?_ ?_
                              rotate_left
                              · rintro w' ⟨s0, s1, s2, s3, s4, s5⟩
                                go_simp
                                with_reducible rfl
                              rotate_left
                              · simp only [Act.put, List.setIfInBounds_toArray, List.set_cons_zero, List.set_cons_succ, i64_w, i32_w]
                                rfl
                              refine one_ (i := 2) (N := some 82) #[true, true, true, true, true, true, false, true, true, false, false] rfl rfl (one_of HT_.out (by kernel_rfl)) (by decide) (fun K hK => ?_)
                              refine goes_ Try.func25 (by kernel_rfl) rfl #[.int .i64 ((rd_T38 t458 x4_1).f0)] (by rfl) rfl rfl (by (try simp only [List.map_toArray, List.map_cons, List.map_nil]); first | done | rfl | (simp only [List.length_drop, List.length_take]; rfl)) ?_
                              with_reducible refine (graph_HasOut.calls ((rd_T38 t458 x4_1).f0) t479 _ A79.out).mono ?_
                              rintro e w' ⟨rfl, ⟨nd, rfl⟩⟩
                              refine ⟨_, rfl, ?_⟩
                              refine hK.out _ _ ⟨(blk_cell BK465.out 0).trans rfl, (blk_cell BK465.out 1).trans rfl, (blk_cell BK465.out 2).trans rfl, (blk_cell BK465.out 3).trans rfl, (blk_cell BK456.out 0).trans rfl, (blk_cell BK456.out 1).trans rfl⟩ (fun hHeld => ?_)
                              clear hK K
                              refine norm_ (a' := ?_) ?_ ?_
                              rotate_left
                              · show Act.put _ (some 82) _ = _
                                simp only [Act.put, List.setIfInBounds_toArray, List.set_cons_zero, List.set_cons_succ, i64_w, i32_w]
                                rfl
                              refine one_ (i := 6) (N := some 86) #[true, true, true, true, true, true, true, true, true, false, false] rfl rfl (one_of HT_.out (by kernel_rfl)) (by decide) (fun K hK => ?_)
                              refine goes_ Try.func22 (by kernel_rfl) rfl #[.agg #[.slice (some ad464) t458.length co8, .slice Ao10 t461.length co10], .agg #[.int .i64 x4_1, .int .i64 (-1)]] (by rfl) rfl rfl (by (try simp only [List.map_toArray, List.map_cons, List.map_nil]); first | done | rfl | (simp only [List.length_drop, List.length_take]; rfl)) ?_
                              with_reducible refine (graph_Depth.calls k4 _ _ t458 _ _ t461 x4_1 (-1) t480 _ ?side1 ?side2 ?side3 ?side4 A80.out).mono ?_
                              (case side1 => repeat (first | exact (Kd.V_reads' HO_457000.out).2.2 | (with_reducible refine Kd.C_alloc ?_ _) | (with_reducible refine Kd.C_drewN ?_ _) | (with_reducible refine Kd.C_drew ?_)))
                              (case side2 => exact (Kd.V_reads' HO_457000.out).2.1)
                              (case side3 => repeat (first | exact (Kd.V_reads' HO_457001.out).2.2 | (with_reducible refine Kd.C_alloc ?_ _) | (with_reducible refine Kd.C_drewN ?_ _) | (with_reducible refine Kd.C_drew ?_)))
                              (case side4 => exact (Kd.V_reads' HO_457001.out).2.1)
                              rintro e w91 ⟨rfl, hb⟩
                              refine ⟨_, rfl, ?_⟩
                              have n0_ := Aside0.mk (Kd.V_below (by (with_reducible repeat (first | apply Kd.V_alloc | apply Kd.V_drewN | apply Kd.V_drew)); exact HO_457000.out) hb)
                              have n1_ := Aside0.mk (Kd.V_below (by (with_reducible repeat (first | apply Kd.V_alloc | apply Kd.V_drewN | apply Kd.V_drew)); exact HO_457001.out) hb)
                              have n2_ := Aside0.mk (blk_below (g := gb456) (o := .cells #[.slice (some ad464) t458.length co8, .slice Ao10 t461.length co10] 30 (0, 0)) (by (with_reducible repeat (first | refine blk_drewN ?_ _ | refine blk_drew ?_ | refine blk_alloc ?_ _)); exact BK456.out) hb)
                              have n3_ := Aside0.mk (blk_below (g := gb465) (o := .cells #[.int .i64 ((rd_T38 t458 x4_1).f0), .int .i64 ((rd_T38 t458 x4_1).f1), .int .i64 ((rd_T38 t458 x4_1).f2), .int .i64 ((rd_T38 t458 x4_1).f3)] 38 (0, 0)) (by (with_reducible repeat (first | refine blk_drewN ?_ _ | refine blk_drew ?_ | refine blk_alloc ?_ _)); exact BK465.out) hb)
                              have n4_ := Aside0.mk (blk_below (g := gb474) (o := .cells #[.int .i64 t467, .int .i64 t468, .int .i64 t469, .int .i64 t470, .int .i64 t471, .int .i64 t472, .int .i64 t473] 51 (0, 0)) (by (with_reducible repeat (first | refine blk_drewN ?_ _ | refine blk_drew ?_ | refine blk_alloc ?_ _)); exact BK474.out) hb)
                              have n5_ := Aside0.mk (below_step (by repeat (first | (with_reducible first | exact HB.out | apply below_alloc | apply pw_below_drewN | apply below_drew1 | refine below_set ?_ GE456.out | refine below_set ?_ GE465.out | refine below_set ?_ GE474.out) | exact HB.out)) hb)
                              clear HO_457000
                              clear HO_457001
                              clear BK456
                              clear BK465
                              clear BK474
                              clear HB
                              have HO_457000 := n0_
                              have HO_457001 := n1_
                              have BK456 := n2_
                              have BK465 := n3_
                              have BK474 := n4_
                              have HB := n5_
                              clear n0_ n1_ n2_ n3_ n4_ n5_
                              (try clear hb)
                              (try clear hb2)
                              (try clear hk)
                              (try clear hi)
                              refine hK.out _ _ ⟨(blk_cell BK465.out 0).trans rfl, (blk_cell BK465.out 1).trans rfl, (blk_cell BK465.out 2).trans rfl, (blk_cell BK465.out 3).trans rfl, (blk_cell BK456.out 0).trans rfl, (blk_cell BK456.out 1).trans rfl⟩ (fun hHeld => ?_)
                              clear hK K
                              refine norm_ (a' := ?_) ?_ ?_
                              rotate_left
                              · show Act.put _ (some 86) _ = _
                                simp only [Act.put, List.setIfInBounds_toArray, List.set_cons_zero, List.set_cons_succ, i64_w, i32_w]
                                rfl
                              refine pure_ (i := 9) (N := some 89) (v := ?_) (a' := ?_) #[true, true, true, true, true, true, true, true, true, true, false] rfl rfl (any_of HT_.out (by kernel_rfl)) (fun _ _ _ h => h) (Or.inl ⟨by rfl, ?_⟩) ?_ ?_
                              rotate_left
                              · intro w'
                                go_simp
                                with_reducible rfl
                              rotate_left
                              · simp only [Act.put, List.setIfInBounds_toArray, List.set_cons_zero, List.set_cons_succ, i64_w, i32_w]
                                rfl
                              refine pure_ (i := 10) (N := some 90) (v := ?_) (a' := ?_) #[true, true, true, true, true, true, true, true, true, true, true] rfl rfl (any_of HT_.out (by kernel_rfl)) (fun _ _ _ h => h) (Or.inl ⟨by rfl, ?_⟩) ?_ ?_
                              rotate_left
                              · intro w'
                                go_simp
                                with_reducible rfl
                              rotate_left
                              · simp only [Act.put, List.setIfInBounds_toArray, List.set_cons_zero, List.set_cons_succ, i64_w, i32_w]
                                rfl
                              refine done_ (done_of HT_.out (by kernel_rfl)) ?_
                              try go_wp2
                              go_roundg k4
                              case measure => have := HK1.out; have := HJ13.out; have := HJ32.out; have := HK4.out; omega
                              case rel => exact ⟨(wrap64 (x4_1 + 1)), (by first | rfl | (simp; done) | (simp [*]; done)), H', ⟨by have := HK1.out; have := HJ13.out; have := HJ32.out; have := HK4.out; omega⟩, ⟨by (with_reducible repeat (first | apply Kd.V_alloc | apply Kd.V_drewN | apply Kd.V_drew)); exact Kd.V_mono HO_457000.out (fun _ hk => hk.1)⟩, ⟨by (with_reducible repeat (first | apply Kd.V_alloc | apply Kd.V_drewN | apply Kd.V_drew)); exact Kd.V_mono HO_457001.out (fun _ hk => hk.1)⟩, ⟨by (with_reducible repeat (first | refine blk_drewN ?_ _ | refine blk_drew ?_ | refine blk_alloc ?_ _)); exact BK456.out⟩, ⟨by repeat (first | (with_reducible first | exact HB.out | apply below_alloc | apply pw_below_drewN | apply below_drew1 | refine below_set ?_ GE456.out | refine below_set ?_ GE465.out | refine below_set ?_ GE474.out) | exact HB.out)⟩⟩
        · rw [if_neg c12] at H
          exact absurd H (by simp)
      · rw [if_neg c11] at H
        have c11b0 : decide (x4_1 < (t458.length : Int)) = false := decide_eq_false c11
        clear c11
        obtain rfl := Option.some.inj H
        have hcz92_0 : wr.cell? ⟨gb456, 0, none⟩ = some (.slice Ao8 t458.length co8) := (blk_cell BK456.out 0).trans rfl
        have hcz92_1 : wr.cell? ⟨gb456, 1, none⟩ = some (.slice Ao10 t461.length co10) := (blk_cell BK456.out 1).trans rfl
        have hfz92_0 := blk_frozen BK456.out 0
        have hfz92_1 := blk_frozen BK456.out 1
        go_wp2
        go_ret
        exact ⟨by first | rfl | (simp [errW_none, errW_some] <;> rfl) | (simp [*, errW_none, errW_some] <;> rfl), by repeat (first | (with_reducible first | exact HB.out | apply below_alloc | apply pw_below_drewN | apply below_drew1 | refine below_set ?_ GE456.out) | exact HB.out)⟩

end Go.Proofs.Ytlhmcobocnhgoaa.PAll
