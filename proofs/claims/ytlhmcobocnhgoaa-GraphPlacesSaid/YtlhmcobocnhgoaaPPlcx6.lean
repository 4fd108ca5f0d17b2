-- Laid by hprint.py of this repo: the kit's printer, and contracts by hand beside it. Not trusted: Lean checks it.
import Derived.Test.YtlhmcobocnhgoaaPPlcx0
import Derived.Test.YtlhmcobocnhgoaaPPlcx2
import Derived.Test.YtlhmcobocnhgoaaPPlcx3
import Derived.Test.YtlhmcobocnhgoaaPPlcx4
import Derived.Test.YtlhmcobocnhgoaaPPlcx5
namespace Go.Proofs.Ytlhmcobocnhgoaa.PPlc
open Go.RowKit Go.Proofs.YtlhmcobocnhgoaaW.PrintWords Go.Proofs.YtlhmcobocnhgoaaW.PrintLast Go.Proofs.YtlhmcobocnhgoaaW.PrintMore
attribute [local go_sem] max2_int min2_int max_two min_two max_three min_three max_four min_four   -- for this text's walks alone
set_option linter.unusedVariables false
set_option linter.unusedSimpArgs false

/-! ### meanderlaw08_GraphPlaces: function 5 -/
def meanderlaw08_GraphPlaces.l0 : Nat → Bool → Int → List (S38) → List (S35) → Int → Int → Option (Bool)
 | 0, _, _, _, _, _, _ => none
 | k + 1, x5, x6, x204000, x204001, x205000, x205001 => if x6 < (x204000.length : Int) then (if 0 ≤ x6 then (if ((rd_T38 x204000 x6).f3) < (-1000) then (some x5) else (if ((rd_T38 x204000 x6).f3) > 1000 then (some x5) else (meanderlaw08_GraphPlaces.l0 k x5 (wrap64 (x6 + 1)) x204000 x204001 x205000 x205001))) else (none)) else ((graph_Locs.f k x204000 x204001).bind fun t214 => ((meanderref08_Locs.f k x204000 x204001).bind fun t217 => ((meanderref08_Same.f k t214 t217).bind fun t220 => ((graph_Next.f k x204000 x204001 x205000).bind fun t221 => ((meanderref08_Next.f k x204000 x204001 x205000).bind fun t224 => ((meanderref08_Same.f k t221 t224).bind fun t227 => ((graph_Prev.f k x204000 x204001 x205000 x205001).bind fun t228 => ((meanderref08_Prev.f k x204000 x204001 x205000 x205001).bind fun t231 => ((meanderref05_Numbers.f k t228 t231).bind fun t234 => (if x5 = true then (if t220 = true then (if t227 = true then (if t234 = true then ((graph_Is.f k x204000 x204001 x205000 x205001).bind fun t235 => ((meanderref08_Is.f k x204000 x204001 x205000 x205001).bind fun t236 => (if (t235 == t236) = true then ((graph_Depth.f k x204000 x204001 x205000 x205001).bind fun t237 => ((meanderref08_Depth.f k x204000 x204001 x205000 x205001).bind fun t238 => (some (t237 == t238)))) else (none)))) else (none)) else (none)) else (none)) else (none)))))))))))
def meanderlaw08_GraphPlaces.f (k : Nat) (l0_0 : List (S38)) (l0_1 : List (S35)) (a1_0 : Int) (a1_1 : Int) : Option (Bool) := (meanderlaw08_shown.f k).bind fun t205 => ((meanderlaw08_few.f l0_0 l0_1).bind fun bt206 => (meanderlaw08_GraphPlaces.l0 k t205 0 bt206.1 bt206.2 a1_0 a1_1))
theorem meanderlaw08_GraphPlaces.mono_l : ∀ k, (∀ y0 y1 y2 y3 y4 y5, LeO (meanderlaw08_GraphPlaces.l0 k y0 y1 y2 y3 y4 y5) (meanderlaw08_GraphPlaces.l0 (k + 1) y0 y1 y2 y3 y4 y5))
 | 0 => fun _ _ _ _ _ _ r h => by simp [meanderlaw08_GraphPlaces.l0] at h
 | k + 1 => by
  have ih0 := meanderlaw08_GraphPlaces.mono_l k
  ·intro y0 y1 y2 y3 y4 y5
   unfold meanderlaw08_GraphPlaces.l0
   repeat' first
   | (with_reducible exact ih0 _ _ _ _ _ _)
   | (with_reducible exact graph_Depth.mono _ _ _ _ _)
   | (with_reducible exact graph_Is.mono _ _ _ _ _)
   | (with_reducible exact graph_Locs.mono _ _ _)
   | (with_reducible exact graph_Next.mono _ _ _ _)
   | (with_reducible exact graph_Prev.mono _ _ _ _ _)
   | (with_reducible exact meanderlaw08_shown.mono _)
   | (with_reducible exact meanderref05_Numbers.mono _ _ _)
   | (with_reducible exact meanderref08_Depth.mono _ _ _ _ _)
   | (with_reducible exact meanderref08_Is.mono _ _ _ _ _)
   | (with_reducible exact meanderref08_Locs.mono _ _ _)
   | (with_reducible exact meanderref08_Next.mono _ _ _ _)
   | (with_reducible exact meanderref08_Prev.mono _ _ _ _ _)
   | (with_reducible exact meanderref08_Same.mono _ _ _)
   | (with_reducible exact LeO.refl _)
   | (with_reducible exact LeO.none _)
   | (with_reducible refine LeO.ite ?_ ?_)
   | (with_reducible refine LeO.bind ?_ (fun _ => ?_))
   | exact ih0 _ _ _ _ _ _
   | exact graph_Depth.mono _ _ _ _ _
   | exact graph_Is.mono _ _ _ _ _
   | exact graph_Locs.mono _ _ _
   | exact graph_Next.mono _ _ _ _
   | exact graph_Prev.mono _ _ _ _ _
   | exact meanderlaw08_shown.mono _
   | exact meanderref05_Numbers.mono _ _ _
   | exact meanderref08_Depth.mono _ _ _ _ _
   | exact meanderref08_Is.mono _ _ _ _ _
   | exact meanderref08_Locs.mono _ _ _
   | exact meanderref08_Next.mono _ _ _ _
   | exact meanderref08_Prev.mono _ _ _ _ _
   | exact meanderref08_Same.mono _ _ _
   | exact LeO.none _
   | refine LeO.ite ?_ ?_
   | refine LeO.bind ?_ (fun _ => ?_)
theorem meanderlaw08_GraphPlaces.mono : ∀ a0 a1 a2 a3 k, LeO (meanderlaw08_GraphPlaces.f k a0 a1 a2 a3) (meanderlaw08_GraphPlaces.f (k + 1) a0 a1 a2 a3) := by
 intro a0 a1 a2 a3 k
 have ih0 := meanderlaw08_GraphPlaces.mono_l k
 unfold meanderlaw08_GraphPlaces.f
 repeat' first
   | (with_reducible exact ih0 _ _ _ _ _ _)
   | (with_reducible exact graph_Depth.mono _ _ _ _ _)
   | (with_reducible exact graph_Is.mono _ _ _ _ _)
   | (with_reducible exact graph_Locs.mono _ _ _)
   | (with_reducible exact graph_Next.mono _ _ _ _)
   | (with_reducible exact graph_Prev.mono _ _ _ _ _)
   | (with_reducible exact meanderlaw08_shown.mono _)
   | (with_reducible exact meanderref05_Numbers.mono _ _ _)
   | (with_reducible exact meanderref08_Depth.mono _ _ _ _ _)
   | (with_reducible exact meanderref08_Is.mono _ _ _ _ _)
   | (with_reducible exact meanderref08_Locs.mono _ _ _)
   | (with_reducible exact meanderref08_Next.mono _ _ _ _)
   | (with_reducible exact meanderref08_Prev.mono _ _ _ _ _)
   | (with_reducible exact meanderref08_Same.mono _ _ _)
   | (with_reducible exact LeO.refl _)
   | (with_reducible exact LeO.none _)
   | (with_reducible refine LeO.ite ?_ ?_)
   | (with_reducible refine LeO.bind ?_ (fun _ => ?_))
   | exact ih0 _ _ _ _ _ _
   | exact graph_Depth.mono _ _ _ _ _
   | exact graph_Is.mono _ _ _ _ _
   | exact graph_Locs.mono _ _ _
   | exact graph_Next.mono _ _ _ _
   | exact graph_Prev.mono _ _ _ _ _
   | exact meanderlaw08_shown.mono _
   | exact meanderref05_Numbers.mono _ _ _
   | exact meanderref08_Depth.mono _ _ _ _ _
   | exact meanderref08_Is.mono _ _ _ _ _
   | exact meanderref08_Locs.mono _ _ _
   | exact meanderref08_Next.mono _ _ _ _
   | exact meanderref08_Prev.mono _ _ _ _ _
   | exact meanderref08_Same.mono _ _ _
   | exact LeO.none _
   | refine LeO.ite ?_ ?_
   | refine LeO.bind ?_ (fun _ => ?_)
def meanderlaw08_GraphPlaces.T9 : Bool × List (List Nat × List Nat) := (true, [([], []), ([], []), ([1], [1]), ([0, 2], [0, 2]), ([], []), ([], []), ([5], [5]), ([4, 6, 3], [4, 6]), ([3, 7, 7], [3, 7]), ([8, 8, 0, 1, 2, 3, 4, 5, 6, 7, 8], [8])])
def meanderlaw08_GraphPlaces.B9 : List Nat := [0, 0, 2, 7, 0, 0, 32, 127, 255, 511]
theorem meanderlaw08_GraphPlaces.tab9 : rtab .any (opsOf Try.f5 9) = meanderlaw08_GraphPlaces.T9 := by kernel_rfl
theorem meanderlaw08_GraphPlaces.bits9 : waitsOk meanderlaw08_GraphPlaces.T9.2 meanderlaw08_GraphPlaces.B9 = true := by kernel_rfl
def meanderlaw08_GraphPlaces.T10 : Bool × List (List Nat × List Nat) := (true, [([], []), ([], []), ([0, 1], [0, 1]), ([], []), ([], []), ([3, 4, 2], [3, 4]), ([2, 5, 5], [2, 5]), ([6, 6, 0, 1, 2, 3, 4, 5, 6], [6])])
def meanderlaw08_GraphPlaces.B10 : List Nat := [0, 0, 3, 0, 0, 31, 63, 127]
theorem meanderlaw08_GraphPlaces.tab10 : rtab .any (opsOf Try.f5 10) = meanderlaw08_GraphPlaces.T10 := by kernel_rfl
theorem meanderlaw08_GraphPlaces.bits10 : waitsOk meanderlaw08_GraphPlaces.T10.2 meanderlaw08_GraphPlaces.B10 = true := by kernel_rfl
def meanderlaw08_GraphPlaces.T11 : Bool × List (List Nat × List Nat) := (true, [([], []), ([0], [0]), ([1], [1]), ([1, 2], [1, 2]), ([3, 1], [3]), ([4], [4]), ([4, 5], [4, 5]), ([6, 4], [6]), ([7], [7]), ([7, 8], [7, 8]), ([9, 7], [9]), ([10], [10]), ([10], [10]), ([11, 12, 10, 10], [10, 11, 12]), ([10], [10]), ([10], [10]), ([14, 15, 13, 10], [10, 14, 15]), ([13, 16, 10], [10, 13, 16]), ([10, 17], [10, 17]), ([18, 16], [18]), ([19], [19]), ([19], [19]), ([20, 21, 19, 19], [19, 20, 21]), ([19], [19]), ([19], [19]), ([23, 24, 22, 19], [19, 23, 24]), ([22, 25, 19], [19, 22, 25]), ([19, 26], [19, 26]), ([27, 25, 0, 1, 2, 3, 4, 5, 6, 7, 8, 9, 10, 11, 12, 13, 14, 15, 16, 17, 18, 19, 20, 21, 22, 23, 24, 25, 26, 27], [27])])
def meanderlaw08_GraphPlaces.B11 : List Nat := [0, 1, 3, 7, 15, 31, 63, 127, 255, 511, 1023, 2047, 2047, 8191, 2047, 2047, 65535, 131071, 262143, 524287, 1048575, 1048575, 4194303, 1048575, 1048575, 33554431, 67108863, 134217727, 268435455]
theorem meanderlaw08_GraphPlaces.tab11 : rtab .any (opsOf Try.f5 11) = meanderlaw08_GraphPlaces.T11 := by kernel_rfl
theorem meanderlaw08_GraphPlaces.bits11 : waitsOk meanderlaw08_GraphPlaces.T11.2 meanderlaw08_GraphPlaces.B11 = true := by kernel_rfl
set_option maxHeartbeats 8000000 in
set_option maxRecDepth 100000 in
theorem meanderlaw08_GraphPlaces.calls (k : Nat) (A0_0 : Option Addr) (c0_0 : Nat) (l0_0 : List (S38)) (A0_1 : Option Addr) (c0_1 : Nat) (l0_1 : List (S35)) (a1_0 : Int) (a1_1 : Int) (r : Bool) (w : World) (hr0_0 : Kd.C k38 w A0_0 l0_0.length l0_0) (hc0_0 : l0_0.length ≤ c0_0) (hr0_1 : Kd.C k35 w A0_1 l0_1.length l0_1) (hc0_1 : l0_1.length ≤ c0_1) (h : meanderlaw08_GraphPlaces.f k l0_0 l0_1 a1_0 a1_1 = some r) :
  Calls Try.prog 5 #[.agg #[.slice A0_0 l0_0.length c0_0, .slice A0_1 l0_1.length c0_1], .agg #[.int .i64 a1_0, .int .i64 a1_1]] w fun e w' => e = .returned (.bool r) ∧ Below w.heap.size w w' := by
 have hu30 := Try.underlying30
 have hu23 := Try.underlying23
 have HR0_0 := Aside0.mk hr0_0
 have HC0_0 := Aside0.mk hc0_0
 clear hr0_0 hc0_0
 have HR0_1 := Aside0.mk hr0_1
 have HC0_1 := Aside0.mk hc0_1
 clear hr0_1 hc0_1
 have HB := Aside0.mk (Below.refl w.heap.size w)
 have H : ((meanderlaw08_shown.f k).bind fun t205 => ((meanderlaw08_few.f l0_0 l0_1).bind fun bt206 => (meanderlaw08_GraphPlaces.l0 k t205 0 bt206.1 bt206.2 a1_0 a1_1))) = some r := h
 clear h
 replace H := Option.bind_eq_some_iff.mp H
 obtain ⟨t205, A30, H⟩ := H
 replace H : ((meanderlaw08_few.f l0_0 l0_1).bind fun bt206 => (meanderlaw08_GraphPlaces.l0 k t205 0 bt206.1 bt206.2 a1_0 a1_1)) = some r := H
 have A3 := Aside0.mk A30
 clear A30
 replace H := Option.bind_eq_some_iff.mp H
 obtain ⟨⟨t206, t209⟩, A40, H⟩ := H
 replace H : (meanderlaw08_GraphPlaces.l0 k t205 0 t206 t209 a1_0 a1_1) = some r := H
 have A4 := Aside0.mk A40
 clear A40
 have H' := Aside0.mk H
 clear H
 go_enter Try.func5, Try.ntmps5
 go_wp2_with (first | ((with_reducible refine gate_dst (N := 2) rfl ?_); refine box_event ?hg (N := 2) ?hd (cs := #[.slice A0_0 l0_0.length c0_0, .slice A0_1 l0_1.length c0_1]) (t := 30) ?hr ?_; (case hd => rfl); (case hg => rfl); (case hr => first | (go_simp; done) | (go_simp; rfl)); intro gb203 hg w5 hbox hb; have n0_ := Aside0.mk (below_step (by repeat (first | (with_reducible first | exact HB.out | apply below_alloc | apply pw_below_drewN | apply below_drew1) | exact HB.out)) hb); have n1_ := Aside0.mk (hbox); have n2_ := Aside0.mk ((by rw [hg]; exact (below_size (by repeat (first | (with_reducible first | exact HB.out | apply below_alloc | apply pw_below_drewN | apply below_drew1) | exact HB.out))) : w.heap.size ≤ gb203)); have n3_ := Aside0.mk ((by rw [hg]; exact (below_size (by repeat (first | (with_reducible first | exact HB.out | apply below_alloc | apply pw_below_drewN | apply below_drew1) | exact HB.out))) : w.heap.size ≤ gb203)); clear HB; have HB := n0_; have BK203 := n1_; have GW203 := n2_; have GE203 := n3_; clear n0_ n1_ n2_ n3_; clear hb hbox hg) | ((with_reducible refine gate_dst (N := 3) rfl ?_); refine box_event ?hg (N := 3) ?hd (cs := #[.int .i64 a1_0, .int .i64 a1_1]) (t := 23) ?hr ?_; (case hd => rfl); (case hg => rfl); (case hr => first | (go_simp; done) | (go_simp; rfl)); intro gb204 hg w6 hbox hb; have n0_ := Aside0.mk (blk_below (g := gb203) (o := .cells #[.slice A0_0 l0_0.length c0_0, .slice A0_1 l0_1.length c0_1] 30 (0, 0)) (by (with_reducible repeat (first | refine blk_drewN ?_ _ | refine blk_drew ?_ | refine blk_alloc ?_ _)); exact BK203.out) hb); have n1_ := Aside0.mk (below_step (by repeat (first | (with_reducible first | exact HB.out | apply below_alloc | apply pw_below_drewN | apply below_drew1 | refine below_set ?_ GE203.out) | exact HB.out)) hb); have n2_ := Aside0.mk (hbox); have n3_ := Aside0.mk ((by rw [hg]; exact (below_size (by repeat (first | (with_reducible first | exact HB.out | apply below_alloc | apply pw_below_drewN | apply below_drew1 | refine below_set ?_ GE203.out) | exact HB.out))) : w.heap.size ≤ gb204)); have n4_ := Aside0.mk ((by rw [hg]; exact (below_size (by repeat (first | (with_reducible first | exact HB.out | apply below_alloc | apply pw_below_drewN | apply below_drew1 | refine below_set ?_ GE203.out) | exact HB.out))) : w.heap.size ≤ gb204)); have n5_ := Aside0.mk ((by rw [hg]; exact Nat.ne_of_lt (blk_lt (g := gb203) (o := .cells #[.slice A0_0 l0_0.length c0_0, .slice A0_1 l0_1.length c0_1] 30 (0, 0)) (by (with_reducible repeat (first | refine blk_drewN ?_ _ | refine blk_drew ?_ | refine blk_alloc ?_ _)); exact BK203.out)) : gb203 ≠ gb204)); have n6_ := Aside0.mk ((by rw [hg]; exact Nat.ne_of_gt (blk_lt (g := gb203) (o := .cells #[.slice A0_0 l0_0.length c0_0, .slice A0_1 l0_1.length c0_1] 30 (0, 0)) (by (with_reducible repeat (first | refine blk_drewN ?_ _ | refine blk_drew ?_ | refine blk_alloc ?_ _)); exact BK203.out)) : gb204 ≠ gb203)); clear BK203; clear HB; have BK203 := n0_; have HB := n1_; have BK204 := n2_; have GW204 := n3_; have GE204 := n4_; have NB203_204 := n5_; have NB204_203 := n6_; clear n0_ n1_ n2_ n3_ n4_ n5_ n6_; clear hb hbox hg) | ((with_reducible refine gate_callee (f := 9) rfl ?_); refine goesL_ (some 10) rfl rfl Try.func9 (by kernel_rfl) rfl #[] rfl (by (try simp only [List.map_toArray, List.map_cons, List.map_nil]); first | done | rfl | (simp only [List.length_drop, List.length_take]; rfl)) ?_; (with_reducible refine (meanderlaw08_shown.calls k  t205 _ A3.out).mono ?_); rintro e w7 ⟨rfl, hb⟩; refine ⟨_, rfl, ?_⟩; have n0_ := Aside0.mk (blk_below (g := gb203) (o := .cells #[.slice A0_0 l0_0.length c0_0, .slice A0_1 l0_1.length c0_1] 30 (0, 0)) (by (with_reducible repeat (first | refine blk_drewN ?_ _ | refine blk_drew ?_ | refine blk_alloc ?_ _)); exact BK203.out) hb); have n1_ := Aside0.mk (blk_below (g := gb204) (o := .cells #[.int .i64 a1_0, .int .i64 a1_1] 23 (0, 0)) (by (with_reducible repeat (first | refine blk_drewN ?_ _ | refine blk_drew ?_ | refine blk_alloc ?_ _)); exact BK204.out) hb); have n2_ := Aside0.mk (below_step (by repeat (first | (with_reducible first | exact HB.out | apply below_alloc | apply pw_below_drewN | apply below_drew1 | refine below_set ?_ GE203.out | refine below_set ?_ GE204.out) | exact HB.out)) hb); clear BK203; clear BK204; clear HB; have BK203 := n0_; have BK204 := n1_; have HB := n2_; clear n0_ n1_ n2_; (try clear hb); (try clear hb2); (try clear hk); (try clear hi); have hnb8 := NB203_204.out; have hnc8 := NB204_203.out; have hcz9_0 : w7.cell? ⟨gb203, 0, none⟩ = some (.slice A0_0 l0_0.length c0_0) := (blk_cell BK203.out 0).trans rfl; have hcz9_1 : w7.cell? ⟨gb203, 1, none⟩ = some (.slice A0_1 l0_1.length c0_1) := (blk_cell BK203.out 1).trans rfl; have hfz9_0 := blk_frozen BK203.out 0; have hfz9_1 := blk_frozen BK203.out 1) | ((with_reducible refine gate_callee (f := 11) rfl ?_); refine goesL_ (some 12) rfl rfl Try.func11 (by kernel_rfl) rfl #[.agg #[.slice A0_0 l0_0.length c0_0, .slice A0_1 l0_1.length c0_1]] rfl (by (try simp only [List.map_toArray, List.map_cons, List.map_nil]); first | done | rfl | (simp only [List.length_drop, List.length_take]; rfl)) ?_; (with_reducible refine (meanderlaw08_few.calls (fun k_ => k_ < w.heap.size) _ _ l0_0 (fun k_ => k_ < w.heap.size) _ _ l0_1 t206 t209 _ ?side1 ?side2 A4.out).mono ?_); (case side1 => exact Kd.V_mk HC0_0.out (Kd.F_below (Kd.C_F k38_heap HR0_0.out) (by repeat (first | (with_reducible first | exact HB.out | apply below_alloc | apply pw_below_drewN | apply below_drew1 | refine below_set ?_ GE203.out | refine below_set ?_ GE204.out) | exact HB.out)))); (case side2 => exact Kd.V_mk HC0_1.out (Kd.F_below (Kd.C_F k35_heap HR0_1.out) (by repeat (first | (with_reducible first | exact HB.out | apply below_alloc | apply pw_below_drewN | apply below_drew1 | refine below_set ?_ GE203.out | refine below_set ?_ GE204.out) | exact HB.out)))); rintro e w10 ⟨v207, v210, rfl, ho0, ho1, hb⟩; refine ⟨_, rfl, ?_⟩; have n0_ := Aside0.mk (Kd.V_lower (Kd.V_mono (ok' := fun k_ => k_ ≠ gb203 ∧ k_ ≠ gb204) ho0 (fun k_ hk_ => ⟨Or.elim hk_ (fun hs_ => Or.elim hs_ (fun hs_ => fun e_ => Nat.not_le.2 hs_ (by rw [e_]; exact GW203.out)) (fun hs_ => fun e_ => Nat.not_le.2 hs_ (by rw [e_]; exact GW203.out))) (fun hn_ => (Kd.freshB (g := gb203) (o := .cells #[.slice A0_0 l0_0.length c0_0, .slice A0_1 l0_1.length c0_1] 30 (0, 0)) (by (with_reducible repeat (first | refine blk_drewN ?_ _ | refine blk_drew ?_ | refine blk_alloc ?_ _)); exact BK203.out) k_ hn_)), Or.elim hk_ (fun hs_ => Or.elim hs_ (fun hs_ => fun e_ => Nat.not_le.2 hs_ (by rw [e_]; exact GW204.out)) (fun hs_ => fun e_ => Nat.not_le.2 hs_ (by rw [e_]; exact GW204.out))) (fun hn_ => (Kd.freshB (g := gb204) (o := .cells #[.int .i64 a1_0, .int .i64 a1_1] 23 (0, 0)) (by (with_reducible repeat (first | refine blk_drewN ?_ _ | refine blk_drew ?_ | refine blk_alloc ?_ _)); exact BK204.out) k_ hn_))⟩)) (below_size (by repeat (first | (with_reducible first | exact HB.out | apply below_alloc | apply pw_below_drewN | apply below_drew1 | refine below_set ?_ GE203.out | refine below_set ?_ GE204.out) | exact HB.out)))); have n1_ := Aside0.mk (Kd.V_lower (Kd.V_mono (ok' := fun k_ => k_ ≠ gb203 ∧ k_ ≠ gb204) ho1 (fun k_ hk_ => ⟨Or.elim hk_ (fun hs_ => Or.elim hs_ (fun hs_ => fun e_ => Nat.not_le.2 hs_ (by rw [e_]; exact GW203.out)) (fun hs_ => fun e_ => Nat.not_le.2 hs_ (by rw [e_]; exact GW203.out))) (fun hn_ => (Kd.freshB (g := gb203) (o := .cells #[.slice A0_0 l0_0.length c0_0, .slice A0_1 l0_1.length c0_1] 30 (0, 0)) (by (with_reducible repeat (first | refine blk_drewN ?_ _ | refine blk_drew ?_ | refine blk_alloc ?_ _)); exact BK203.out) k_ hn_)), Or.elim hk_ (fun hs_ => Or.elim hs_ (fun hs_ => fun e_ => Nat.not_le.2 hs_ (by rw [e_]; exact GW204.out)) (fun hs_ => fun e_ => Nat.not_le.2 hs_ (by rw [e_]; exact GW204.out))) (fun hn_ => (Kd.freshB (g := gb204) (o := .cells #[.int .i64 a1_0, .int .i64 a1_1] 23 (0, 0)) (by (with_reducible repeat (first | refine blk_drewN ?_ _ | refine blk_drew ?_ | refine blk_alloc ?_ _)); exact BK204.out) k_ hn_))⟩)) (below_size (by repeat (first | (with_reducible first | exact HB.out | apply below_alloc | apply pw_below_drewN | apply below_drew1 | refine below_set ?_ GE203.out | refine below_set ?_ GE204.out) | exact HB.out)))); have n2_ := Aside0.mk (blk_below (g := gb203) (o := .cells #[.slice A0_0 l0_0.length c0_0, .slice A0_1 l0_1.length c0_1] 30 (0, 0)) (by (with_reducible repeat (first | refine blk_drewN ?_ _ | refine blk_drew ?_ | refine blk_alloc ?_ _)); exact BK203.out) hb); have n3_ := Aside0.mk (blk_below (g := gb204) (o := .cells #[.int .i64 a1_0, .int .i64 a1_1] 23 (0, 0)) (by (with_reducible repeat (first | refine blk_drewN ?_ _ | refine blk_drew ?_ | refine blk_alloc ?_ _)); exact BK204.out) hb); have n4_ := Aside0.mk (below_step (by repeat (first | (with_reducible first | exact HB.out | apply below_alloc | apply pw_below_drewN | apply below_drew1 | refine below_set ?_ GE203.out | refine below_set ?_ GE204.out) | exact HB.out)) hb); clear BK203; clear BK204; clear HB; have HO208 := n0_; have HO211 := n1_; have BK203 := n2_; have BK204 := n3_; have HB := n4_; clear n0_ n1_ n2_ n3_ n4_; (try clear hb); (try clear hb2); (try clear hk); (try clear hi); (try clear ho0); (try clear ho1); obtain ⟨Ao11, co11, eo11⟩ := Kd.V_slice HO208.out; subst eo11; have hcz12_0 : w10.cell? ⟨gb203, 0, none⟩ = some (.slice A0_0 l0_0.length c0_0) := (blk_cell BK203.out 0).trans rfl; have hcz12_1 : w10.cell? ⟨gb203, 1, none⟩ = some (.slice A0_1 l0_1.length c0_1) := (blk_cell BK203.out 1).trans rfl; have hfz12_0 := blk_frozen BK203.out 0; have hfz12_1 := blk_frozen BK203.out 1; obtain ⟨Ao13, co13, eo13⟩ := Kd.V_slice HO211.out; subst eo13))
 go_loopg [6] k (fun kq v6 w' => ∃ (x6_1 : Int), v6 = .int .i64 x6_1 ∧ Aside0 (meanderlaw08_GraphPlaces.l0 kq t205 x6_1 t206 t209 a1_0 a1_1 = some r) ∧ Aside0 (kq ≤ k) ∧ Aside0 (Kd.V k38 38 w' w.heap.size (fun k_ => k_ ≠ gb203 ∧ k_ ≠ gb204) (.slice Ao11 t206.length co11) t206) ∧ Aside0 (Kd.V k35 35 w' w.heap.size (fun k_ => k_ ≠ gb203 ∧ k_ ≠ gb204) (.slice Ao13 t209.length co13) t209) ∧ Aside0 (w'.heap[gb203]? = some (.cells #[(.slice Ao11 t206.length co11), (.slice Ao13 t209.length co13)] 30 (0, 0))) ∧ Aside0 (w'.heap[gb204]? = some (.cells #[.int .i64 a1_0, .int .i64 a1_1] 23 (0, 0))) ∧ Aside0 (Below w.heap.size w w'))
 case atStart => exact ⟨(0), (by first | rfl | (simp; done) | (simp [*]; done)), H', ⟨Nat.le_refl _⟩, ⟨by (with_reducible repeat (first | apply Kd.V_alloc | apply Kd.V_drewN | apply Kd.V_drew)); exact Kd.V_mono (Kd.V_far (p := ⟨gb203, 1, none⟩) (Kd.V_far (p := ⟨gb203, 0, none⟩) (Kd.V_mono HO208.out (fun k_ hk => (⟨hk, hk.1⟩ : _ ∧ k_ ≠ gb203))) (fun _ hk => hk.2) (.slice Ao11 t206.length co11)) (fun _ hk => hk.2) (.slice Ao13 t209.length co13)) (fun _ hk => ⟨hk.1.1, hk.1.2⟩)⟩, ⟨by (with_reducible repeat (first | apply Kd.V_alloc | apply Kd.V_drewN | apply Kd.V_drew)); exact Kd.V_mono (Kd.V_far (p := ⟨gb203, 1, none⟩) (Kd.V_far (p := ⟨gb203, 0, none⟩) (Kd.V_mono HO211.out (fun k_ hk => (⟨hk, hk.1⟩ : _ ∧ k_ ≠ gb203))) (fun _ hk => hk.2) (.slice Ao11 t206.length co11)) (fun _ hk => hk.2) (.slice Ao13 t209.length co13)) (fun _ hk => ⟨hk.1.1, hk.1.2⟩)⟩, ⟨by (with_reducible repeat (first | refine blk_drewN ?_ _ | refine blk_drew ?_ | refine blk_alloc ?_ _)); refine blk_put (cs := #[.slice Ao11 t206.length co11, .slice A0_1 l0_1.length c0_1]) ?_ 1 _ rfl; (with_reducible repeat (first | refine blk_drewN ?_ _ | refine blk_drew ?_ | refine blk_alloc ?_ _)); refine blk_put (cs := #[.slice A0_0 l0_0.length c0_0, .slice A0_1 l0_1.length c0_1]) ?_ 0 _ rfl; (with_reducible repeat (first | refine blk_drewN ?_ _ | refine blk_drew ?_ | refine blk_alloc ?_ _)); exact BK203.out⟩, ⟨by (with_reducible repeat (first | refine blk_drewN ?_ _ | refine blk_drew ?_ | refine blk_alloc ?_ _)); refine blk_far ?_ NB204_203.out _; (with_reducible repeat (first | refine blk_drewN ?_ _ | refine blk_drew ?_ | refine blk_alloc ?_ _)); refine blk_far ?_ NB204_203.out _; (with_reducible repeat (first | refine blk_drewN ?_ _ | refine blk_drew ?_ | refine blk_alloc ?_ _)); exact BK204.out⟩, ⟨by repeat (first | (with_reducible first | exact HB.out | apply below_alloc | apply pw_below_drewN | apply below_drew1 | refine below_set ?_ GE203.out | refine below_set ?_ GE204.out) | exact HB.out)⟩⟩
 case round =>
  clear H'
  try clear c1
  try clear p2
  try clear c5
  try clear c8
  try clear c9
  try clear c11
  try clear hcz12_0
  try clear hcz12_1
  try clear hcz9_0
  try clear hcz9_1
  try clear hfz12_0
  try clear hfz12_1
  try clear hfz9_0
  try clear hfz9_1
  obtain ⟨x6_1, rfl, HA, HK1, HO_204000, HO_204001, BK203, BK204, HB⟩ := hrel
  cases gk with
  | zero => exact absurd HA.out (by simp [meanderlaw08_GraphPlaces.l0])
  | succ k1 =>
   have H := HA.out
   clear HA
   simp only [meanderlaw08_GraphPlaces.l0] at H
   by_cases c14 : x6_1 < (t206.length : Int)
   ·rw [if_pos c14] at H
    have c14b0 : decide (x6_1 < (t206.length : Int)) = true := decide_eq_true c14
    clear c14
    by_cases c15 : 0 ≤ x6_1
    ·rw [if_pos c15] at H
     have c15b0 : decide (0 ≤ x6_1) = true := decide_eq_true c15
     clear c15
     by_cases c16 : ((rd_T38 t206 x6_1).f3) < (-1000)
     ·rw [if_pos c16] at H
      have c16b0 : decide (((rd_T38 t206 x6_1).f3) < (-1000)) = true := decide_eq_true c16
      clear c16
      obtain rfl := Option.some.inj H
      have hnb17 := NB203_204.out
      have hnc17 := NB204_203.out
      have hcz18_0 : wr.cell? ⟨gb203, 0, none⟩ = some (.slice Ao11 t206.length co11) := (blk_cell BK203.out 0).trans rfl
      have hcz18_1 : wr.cell? ⟨gb203, 1, none⟩ = some (.slice Ao13 t209.length co13) := (blk_cell BK203.out 1).trans rfl
      have hfz18_0 := blk_frozen BK203.out 0
      have hfz18_1 := blk_frozen BK203.out 1
      have p212 : 0 ≤ (x6_1 : Int) := of_decide_eq_true (by first | (with_reducible assumption) | assumption)
      have q212 : x6_1 < (t206.length : Int) := of_decide_eq_true (by first | (with_reducible assumption) | assumption)
      obtain ⟨ad212, e212, hx212_0, hx212_1, hx212_2, hx212_3⟩ := at_T38 (Kd.V_reads' HO_204000.out).2.2 x6_1 p212 q212
      cases e212
      replace p212 := eq_true p212
      replace q212 := eq_true q212
      go_wp2
      go_ret
      exact ⟨by first | rfl | (simp [errW_none, errW_some] <;> rfl) | (simp [*, errW_none, errW_some] <;> rfl), by repeat (first | (with_reducible first | exact HB.out | apply below_alloc | apply pw_below_drewN | apply below_drew1 | refine below_set ?_ GE203.out | refine below_set ?_ GE204.out) | exact HB.out)⟩
     ·rw [if_neg c16] at H
      have c16b0 : decide (((rd_T38 t206 x6_1).f3) < (-1000)) = false := decide_eq_false c16
      clear c16
      by_cases c19 : ((rd_T38 t206 x6_1).f3) > 1000
      ·rw [if_pos c19] at H
       have c19b0 : decide (1000 < ((rd_T38 t206 x6_1).f3)) = true := decide_eq_true c19
       clear c19
       obtain rfl := Option.some.inj H
       have hnb20 := NB203_204.out
       have hnc20 := NB204_203.out
       have hcz21_0 : wr.cell? ⟨gb203, 0, none⟩ = some (.slice Ao11 t206.length co11) := (blk_cell BK203.out 0).trans rfl
       have hcz21_1 : wr.cell? ⟨gb203, 1, none⟩ = some (.slice Ao13 t209.length co13) := (blk_cell BK203.out 1).trans rfl
       have hfz21_0 := blk_frozen BK203.out 0
       have hfz21_1 := blk_frozen BK203.out 1
       have p212 : 0 ≤ (x6_1 : Int) := of_decide_eq_true (by first | (with_reducible assumption) | assumption)
       have q212 : x6_1 < (t206.length : Int) := of_decide_eq_true (by first | (with_reducible assumption) | assumption)
       obtain ⟨ad212, e212, hx212_0, hx212_1, hx212_2, hx212_3⟩ := at_T38 (Kd.V_reads' HO_204000.out).2.2 x6_1 p212 q212
       cases e212
       replace p212 := eq_true p212
       replace q212 := eq_true q212
       have p213 : 0 ≤ (x6_1 : Int) := of_decide_eq_true (by first | (with_reducible assumption) | assumption)
       have q213 : x6_1 < (t206.length : Int) := of_decide_eq_true (by first | (with_reducible assumption) | assumption)
       obtain ⟨ad213, e213, hx213_0, hx213_1, hx213_2, hx213_3⟩ := at_T38 (Kd.V_reads' HO_204000.out).2.2 x6_1 p213 q213
       obtain rfl : ad212 = ad213 := (by injection e213)
       replace p213 := eq_true p213
       replace q213 := eq_true q213
       go_wp2
       go_ret
       exact ⟨by first | rfl | (simp [errW_none, errW_some] <;> rfl) | (simp [*, errW_none, errW_some] <;> rfl), by repeat (first | (with_reducible first | exact HB.out | apply below_alloc | apply pw_below_drewN | apply below_drew1 | refine below_set ?_ GE203.out | refine below_set ?_ GE204.out) | exact HB.out)⟩
      ·rw [if_neg c19] at H
       have c19b0 : decide (1000 < ((rd_T38 t206 x6_1).f3)) = false := decide_eq_false c19
       clear c19
       have H' := Aside0.mk H
       clear H
       have hnb22 := NB203_204.out
       have hnc22 := NB204_203.out
       have hcz23_0 : wr.cell? ⟨gb203, 0, none⟩ = some (.slice Ao11 t206.length co11) := (blk_cell BK203.out 0).trans rfl
       have hcz23_1 : wr.cell? ⟨gb203, 1, none⟩ = some (.slice Ao13 t209.length co13) := (blk_cell BK203.out 1).trans rfl
       have hfz23_0 := blk_frozen BK203.out 0
       have hfz23_1 := blk_frozen BK203.out 1
       have p212 : 0 ≤ (x6_1 : Int) := of_decide_eq_true (by first | (with_reducible assumption) | assumption)
       have q212 : x6_1 < (t206.length : Int) := of_decide_eq_true (by first | (with_reducible assumption) | assumption)
       obtain ⟨ad212, e212, hx212_0, hx212_1, hx212_2, hx212_3⟩ := at_T38 (Kd.V_reads' HO_204000.out).2.2 x6_1 p212 q212
       cases e212
       replace p212 := eq_true p212
       replace q212 := eq_true q212
       have p213 : 0 ≤ (x6_1 : Int) := of_decide_eq_true (by first | (with_reducible assumption) | assumption)
       have q213 : x6_1 < (t206.length : Int) := of_decide_eq_true (by first | (with_reducible assumption) | assumption)
       obtain ⟨ad213, e213, hx213_0, hx213_1, hx213_2, hx213_3⟩ := at_T38 (Kd.V_reads' HO_204000.out).2.2 x6_1 p213 q213
       obtain rfl : ad212 = ad213 := (by injection e213)
       replace p213 := eq_true p213
       replace q213 := eq_true q213
       go_wp2
       go_roundg k1
       case measure => have := HK1.out; omega
       case rel => exact ⟨(wrap64 (x6_1 + 1)), (by first | rfl | (simp; done) | (simp [*]; done)), H', ⟨by have := HK1.out; omega⟩, ⟨by (with_reducible repeat (first | apply Kd.V_alloc | apply Kd.V_drewN | apply Kd.V_drew)); exact HO_204000.out⟩, ⟨by (with_reducible repeat (first | apply Kd.V_alloc | apply Kd.V_drewN | apply Kd.V_drew)); exact HO_204001.out⟩, ⟨by (with_reducible repeat (first | refine blk_drewN ?_ _ | refine blk_drew ?_ | refine blk_alloc ?_ _)); exact BK203.out⟩, ⟨by (with_reducible repeat (first | refine blk_drewN ?_ _ | refine blk_drew ?_ | refine blk_alloc ?_ _)); exact BK204.out⟩, ⟨by repeat (first | (with_reducible first | exact HB.out | apply below_alloc | apply pw_below_drewN | apply below_drew1 | refine below_set ?_ GE203.out | refine below_set ?_ GE204.out) | exact HB.out)⟩⟩
    ·rw [if_neg c15] at H
     exact absurd H (by simp)
   ·rw [if_neg c14] at H
    have c14b0 : decide (x6_1 < (t206.length : Int)) = false := decide_eq_false c14
    clear c14
    replace H := Option.bind_eq_some_iff.mp H
    obtain ⟨t214, A240, H⟩ := H
    replace H : ((meanderref08_Locs.f k1 t206 t209).bind fun t217 => ((meanderref08_Same.f k1 t214 t217).bind fun t220 => ((graph_Next.f k1 t206 t209 a1_0).bind fun t221 => ((meanderref08_Next.f k1 t206 t209 a1_0).bind fun t224 => ((meanderref08_Same.f k1 t221 t224).bind fun t227 => ((graph_Prev.f k1 t206 t209 a1_0 a1_1).bind fun t228 => ((meanderref08_Prev.f k1 t206 t209 a1_0 a1_1).bind fun t231 => ((meanderref05_Numbers.f k1 t228 t231).bind fun t234 => (if t205 = true then (if t220 = true then (if t227 = true then (if t234 = true then ((graph_Is.f k1 t206 t209 a1_0 a1_1).bind fun t235 => ((meanderref08_Is.f k1 t206 t209 a1_0 a1_1).bind fun t236 => (if (t235 == t236) = true then ((graph_Depth.f k1 t206 t209 a1_0 a1_1).bind fun t237 => ((meanderref08_Depth.f k1 t206 t209 a1_0 a1_1).bind fun t238 => (some (t237 == t238)))) else (none)))) else (none)) else (none)) else (none)) else (none)))))))))) = some r := H
    have A24 := Aside0.mk A240
    clear A240
    replace H := Option.bind_eq_some_iff.mp H
    obtain ⟨t217, A250, H⟩ := H
    replace H : ((meanderref08_Same.f k1 t214 t217).bind fun t220 => ((graph_Next.f k1 t206 t209 a1_0).bind fun t221 => ((meanderref08_Next.f k1 t206 t209 a1_0).bind fun t224 => ((meanderref08_Same.f k1 t221 t224).bind fun t227 => ((graph_Prev.f k1 t206 t209 a1_0 a1_1).bind fun t228 => ((meanderref08_Prev.f k1 t206 t209 a1_0 a1_1).bind fun t231 => ((meanderref05_Numbers.f k1 t228 t231).bind fun t234 => (if t205 = true then (if t220 = true then (if t227 = true then (if t234 = true then ((graph_Is.f k1 t206 t209 a1_0 a1_1).bind fun t235 => ((meanderref08_Is.f k1 t206 t209 a1_0 a1_1).bind fun t236 => (if (t235 == t236) = true then ((graph_Depth.f k1 t206 t209 a1_0 a1_1).bind fun t237 => ((meanderref08_Depth.f k1 t206 t209 a1_0 a1_1).bind fun t238 => (some (t237 == t238)))) else (none)))) else (none)) else (none)) else (none)) else (none))))))))) = some r := H
    have A25 := Aside0.mk A250
    clear A250
    replace H := Option.bind_eq_some_iff.mp H
    obtain ⟨t220, A260, H⟩ := H
    replace H : ((graph_Next.f k1 t206 t209 a1_0).bind fun t221 => ((meanderref08_Next.f k1 t206 t209 a1_0).bind fun t224 => ((meanderref08_Same.f k1 t221 t224).bind fun t227 => ((graph_Prev.f k1 t206 t209 a1_0 a1_1).bind fun t228 => ((meanderref08_Prev.f k1 t206 t209 a1_0 a1_1).bind fun t231 => ((meanderref05_Numbers.f k1 t228 t231).bind fun t234 => (if t205 = true then (if t220 = true then (if t227 = true then (if t234 = true then ((graph_Is.f k1 t206 t209 a1_0 a1_1).bind fun t235 => ((meanderref08_Is.f k1 t206 t209 a1_0 a1_1).bind fun t236 => (if (t235 == t236) = true then ((graph_Depth.f k1 t206 t209 a1_0 a1_1).bind fun t237 => ((meanderref08_Depth.f k1 t206 t209 a1_0 a1_1).bind fun t238 => (some (t237 == t238)))) else (none)))) else (none)) else (none)) else (none)) else (none)))))))) = some r := H
    have A26 := Aside0.mk A260
    clear A260
    replace H := Option.bind_eq_some_iff.mp H
    obtain ⟨t221, A270, H⟩ := H
    replace H : ((meanderref08_Next.f k1 t206 t209 a1_0).bind fun t224 => ((meanderref08_Same.f k1 t221 t224).bind fun t227 => ((graph_Prev.f k1 t206 t209 a1_0 a1_1).bind fun t228 => ((meanderref08_Prev.f k1 t206 t209 a1_0 a1_1).bind fun t231 => ((meanderref05_Numbers.f k1 t228 t231).bind fun t234 => (if t205 = true then (if t220 = true then (if t227 = true then (if t234 = true then ((graph_Is.f k1 t206 t209 a1_0 a1_1).bind fun t235 => ((meanderref08_Is.f k1 t206 t209 a1_0 a1_1).bind fun t236 => (if (t235 == t236) = true then ((graph_Depth.f k1 t206 t209 a1_0 a1_1).bind fun t237 => ((meanderref08_Depth.f k1 t206 t209 a1_0 a1_1).bind fun t238 => (some (t237 == t238)))) else (none)))) else (none)) else (none)) else (none)) else (none))))))) = some r := H
    have A27 := Aside0.mk A270
    clear A270
    replace H := Option.bind_eq_some_iff.mp H
    obtain ⟨t224, A280, H⟩ := H
    replace H : ((meanderref08_Same.f k1 t221 t224).bind fun t227 => ((graph_Prev.f k1 t206 t209 a1_0 a1_1).bind fun t228 => ((meanderref08_Prev.f k1 t206 t209 a1_0 a1_1).bind fun t231 => ((meanderref05_Numbers.f k1 t228 t231).bind fun t234 => (if t205 = true then (if t220 = true then (if t227 = true then (if t234 = true then ((graph_Is.f k1 t206 t209 a1_0 a1_1).bind fun t235 => ((meanderref08_Is.f k1 t206 t209 a1_0 a1_1).bind fun t236 => (if (t235 == t236) = true then ((graph_Depth.f k1 t206 t209 a1_0 a1_1).bind fun t237 => ((meanderref08_Depth.f k1 t206 t209 a1_0 a1_1).bind fun t238 => (some (t237 == t238)))) else (none)))) else (none)) else (none)) else (none)) else (none)))))) = some r := H
    have A28 := Aside0.mk A280
    clear A280
    replace H := Option.bind_eq_some_iff.mp H
    obtain ⟨t227, A290, H⟩ := H
    replace H : ((graph_Prev.f k1 t206 t209 a1_0 a1_1).bind fun t228 => ((meanderref08_Prev.f k1 t206 t209 a1_0 a1_1).bind fun t231 => ((meanderref05_Numbers.f k1 t228 t231).bind fun t234 => (if t205 = true then (if t220 = true then (if t227 = true then (if t234 = true then ((graph_Is.f k1 t206 t209 a1_0 a1_1).bind fun t235 => ((meanderref08_Is.f k1 t206 t209 a1_0 a1_1).bind fun t236 => (if (t235 == t236) = true then ((graph_Depth.f k1 t206 t209 a1_0 a1_1).bind fun t237 => ((meanderref08_Depth.f k1 t206 t209 a1_0 a1_1).bind fun t238 => (some (t237 == t238)))) else (none)))) else (none)) else (none)) else (none)) else (none))))) = some r := H
    have A29 := Aside0.mk A290
    clear A290
    replace H := Option.bind_eq_some_iff.mp H
    obtain ⟨t228, A300, H⟩ := H
    replace H : ((meanderref08_Prev.f k1 t206 t209 a1_0 a1_1).bind fun t231 => ((meanderref05_Numbers.f k1 t228 t231).bind fun t234 => (if t205 = true then (if t220 = true then (if t227 = true then (if t234 = true then ((graph_Is.f k1 t206 t209 a1_0 a1_1).bind fun t235 => ((meanderref08_Is.f k1 t206 t209 a1_0 a1_1).bind fun t236 => (if (t235 == t236) = true then ((graph_Depth.f k1 t206 t209 a1_0 a1_1).bind fun t237 => ((meanderref08_Depth.f k1 t206 t209 a1_0 a1_1).bind fun t238 => (some (t237 == t238)))) else (none)))) else (none)) else (none)) else (none)) else (none)))) = some r := H
    have A30 := Aside0.mk A300
    clear A300
    replace H := Option.bind_eq_some_iff.mp H
    obtain ⟨t231, A310, H⟩ := H
    replace H : ((meanderref05_Numbers.f k1 t228 t231).bind fun t234 => (if t205 = true then (if t220 = true then (if t227 = true then (if t234 = true then ((graph_Is.f k1 t206 t209 a1_0 a1_1).bind fun t235 => ((meanderref08_Is.f k1 t206 t209 a1_0 a1_1).bind fun t236 => (if (t235 == t236) = true then ((graph_Depth.f k1 t206 t209 a1_0 a1_1).bind fun t237 => ((meanderref08_Depth.f k1 t206 t209 a1_0 a1_1).bind fun t238 => (some (t237 == t238)))) else (none)))) else (none)) else (none)) else (none)) else (none))) = some r := H
    have A31 := Aside0.mk A310
    clear A310
    replace H := Option.bind_eq_some_iff.mp H
    obtain ⟨t234, A320, H⟩ := H
    replace H : (if t205 = true then (if t220 = true then (if t227 = true then (if t234 = true then ((graph_Is.f k1 t206 t209 a1_0 a1_1).bind fun t235 => ((meanderref08_Is.f k1 t206 t209 a1_0 a1_1).bind fun t236 => (if (t235 == t236) = true then ((graph_Depth.f k1 t206 t209 a1_0 a1_1).bind fun t237 => ((meanderref08_Depth.f k1 t206 t209 a1_0 a1_1).bind fun t238 => (some (t237 == t238)))) else (none)))) else (none)) else (none)) else (none)) else (none)) = some r := H
    have A32 := Aside0.mk A320
    clear A320
    by_cases c33 : t205 = true
    ·subst c33
     have H1 : (if t220 = true then (if t227 = true then (if t234 = true then ((graph_Is.f k1 t206 t209 a1_0 a1_1).bind fun t235 => ((meanderref08_Is.f k1 t206 t209 a1_0 a1_1).bind fun t236 => (if (t235 == t236) = true then ((graph_Depth.f k1 t206 t209 a1_0 a1_1).bind fun t237 => ((meanderref08_Depth.f k1 t206 t209 a1_0 a1_1).bind fun t238 => (some (t237 == t238)))) else (none)))) else (none)) else (none)) else (none)) = some r := by rw [if_pos rfl] at H; exact H
     clear H
     have H := H1
     clear H1
     by_cases c34 : t220 = true
     ·subst c34
      have H1 : (if t227 = true then (if t234 = true then ((graph_Is.f k1 t206 t209 a1_0 a1_1).bind fun t235 => ((meanderref08_Is.f k1 t206 t209 a1_0 a1_1).bind fun t236 => (if (t235 == t236) = true then ((graph_Depth.f k1 t206 t209 a1_0 a1_1).bind fun t237 => ((meanderref08_Depth.f k1 t206 t209 a1_0 a1_1).bind fun t238 => (some (t237 == t238)))) else (none)))) else (none)) else (none)) = some r := by rw [if_pos rfl] at H; exact H
      clear H
      have H := H1
      clear H1
      by_cases c35 : t227 = true
      ·subst c35
       have H1 : (if t234 = true then ((graph_Is.f k1 t206 t209 a1_0 a1_1).bind fun t235 => ((meanderref08_Is.f k1 t206 t209 a1_0 a1_1).bind fun t236 => (if (t235 == t236) = true then ((graph_Depth.f k1 t206 t209 a1_0 a1_1).bind fun t237 => ((meanderref08_Depth.f k1 t206 t209 a1_0 a1_1).bind fun t238 => (some (t237 == t238)))) else (none)))) else (none)) = some r := by rw [if_pos rfl] at H; exact H
       clear H
       have H := H1
       clear H1
       by_cases c36 : t234 = true
       ·subst c36
        have H1 : ((graph_Is.f k1 t206 t209 a1_0 a1_1).bind fun t235 => ((meanderref08_Is.f k1 t206 t209 a1_0 a1_1).bind fun t236 => (if (t235 == t236) = true then ((graph_Depth.f k1 t206 t209 a1_0 a1_1).bind fun t237 => ((meanderref08_Depth.f k1 t206 t209 a1_0 a1_1).bind fun t238 => (some (t237 == t238)))) else (none)))) = some r := by rw [if_pos rfl] at H; exact H
        clear H
        have H := H1
        clear H1
        replace H := Option.bind_eq_some_iff.mp H
        obtain ⟨t235, A370, H⟩ := H
        replace H : ((meanderref08_Is.f k1 t206 t209 a1_0 a1_1).bind fun t236 => (if (t235 == t236) = true then ((graph_Depth.f k1 t206 t209 a1_0 a1_1).bind fun t237 => ((meanderref08_Depth.f k1 t206 t209 a1_0 a1_1).bind fun t238 => (some (t237 == t238)))) else (none))) = some r := H
        have A37 := Aside0.mk A370
        clear A370
        replace H := Option.bind_eq_some_iff.mp H
        obtain ⟨t236, A380, H⟩ := H
        replace H : (if (t235 == t236) = true then ((graph_Depth.f k1 t206 t209 a1_0 a1_1).bind fun t237 => ((meanderref08_Depth.f k1 t206 t209 a1_0 a1_1).bind fun t238 => (some (t237 == t238)))) else (none)) = some r := H
        have A38 := Aside0.mk A380
        clear A380
        by_cases c39 : (t235 == t236) = true
        ·rw [if_pos c39] at H
         have c39b0 : (t235 == t236) = true := c39
         (try (have c39b1 : decide (t235 = t236) = true := by simpa using c39))
         (try (have c39b2 : (t235 == t236) = true := by simpa using c39))
         clear c39
         replace H := Option.bind_eq_some_iff.mp H
         obtain ⟨t237, A400, H⟩ := H
         replace H : ((meanderref08_Depth.f k1 t206 t209 a1_0 a1_1).bind fun t238 => (some (t237 == t238))) = some r := H
         have A40 := Aside0.mk A400
         clear A400
         replace H := Option.bind_eq_some_iff.mp H
         obtain ⟨t238, A410, H⟩ := H
         replace H : (some (t237 == t238)) = some r := H
         have A41 := Aside0.mk A410
         clear A410
         obtain rfl := Option.some.inj H
         have hnb42 := NB203_204.out
         have hnc42 := NB204_203.out
         have hcz43_0 : wr.cell? ⟨gb203, 0, none⟩ = some (.slice Ao11 t206.length co11) := (blk_cell BK203.out 0).trans rfl
         have hcz43_1 : wr.cell? ⟨gb203, 1, none⟩ = some (.slice Ao13 t209.length co13) := (blk_cell BK203.out 1).trans rfl
         have hfz43_0 := blk_frozen BK203.out 0
         have hfz43_1 := blk_frozen BK203.out 1
         try go_wp2
         have n0_ := Aside0.mk (Kd.V_drew HO_204000.out)
         have n1_ := Aside0.mk (Kd.V_drew HO_204001.out)
         have n2_ := Aside0.mk (blk_drew BK203.out)
         have n3_ := Aside0.mk (blk_drew BK204.out)
         have n4_ := Aside0.mk (below_drew1 HB.out)
         clear HO_204000
         clear HO_204001
         clear BK203
         clear BK204
         clear HB
         have HO_204000 := n0_
         have HO_204001 := n1_
         have BK203 := n2_
         have BK204 := n3_
         have HB := n4_
         clear n0_ n1_ n2_ n3_ n4_
         refine start_ (n := 6) (S := fun w' => w'.cell? ⟨gb203, 0, none⟩ = some (.slice Ao11 t206.length co11) ∧ w'.cell? ⟨gb203, 1, none⟩ = some (.slice Ao13 t209.length co13)) (ds := []) #[false, false, false, false, false, false] (by kernel_rfl) rfl rfl ⟨(blk_cell BK203.out 0).trans rfl, (blk_cell BK203.out 1).trans rfl⟩ (fun hHeld => ?_)
         generalize wr.drew = w44 at HO_204000 HO_204001 BK203 BK204 HB hHeld ⊢
         refine take_ (i := 0) (N := some 37) (v := ?_) (a' := ?_) #[true, false, false, false, false, false] rfl rfl (by kernel_rfl) (fun _ _ _ h => h) (Or.inl ⟨by rfl, ?_⟩) hHeld ?_ ?_
         rotate_left
         ·rintro w' ⟨s0, s1⟩
          go_simp
          with_reducible rfl
         rotate_left
         ·simp only [Act.put, List.setIfInBounds_toArray, List.set_cons_zero, List.set_cons_succ, i64_w, i32_w]
          rfl
         refine take_ (i := 2) (N := some 39) (v := ?_) (a' := ?_) #[true, false, true, false, false, false] rfl rfl (by kernel_rfl) (fun _ _ _ h => h) (Or.inl ⟨by rfl, ?_⟩) hHeld ?_ ?_
         rotate_left
         ·rintro w' ⟨s0, s1⟩
          go_simp
          with_reducible rfl
         rotate_left
         ·simp only [Act.put, List.setIfInBounds_toArray, List.set_cons_zero, List.set_cons_succ, i64_w, i32_w]
          rfl
         refine one_ (i := 1) (N := some 38) #[true, true, true, false, false, false] rfl rfl (by kernel_rfl) (by decide) (fun K hK => ?_)
         refine goes_ Try.func14 (by kernel_rfl) rfl #[.agg #[.slice Ao11 t206.length co11, .slice Ao13 t209.length co13]] (by rfl) rfl rfl (by (try simp only [List.map_toArray, List.map_cons, List.map_nil]); first | done | rfl | (simp only [List.length_drop, List.length_take]; rfl)) ?_
         with_reducible refine (graph_Locs.calls k1 _ _ t206 _ _ t209 t214 _ ?side1 ?side2 ?side3 ?side4 A24.out).mono ?_
         (case side1 => repeat (first | exact (Kd.V_reads' HO_204000.out).2.2 | (with_reducible refine Kd.C_alloc ?_ _) | (with_reducible refine Kd.C_drewN ?_ _) | (with_reducible refine Kd.C_drew ?_)))
         (case side2 => exact (Kd.V_reads' HO_204000.out).2.1)
         (case side3 => repeat (first | exact (Kd.V_reads' HO_204001.out).2.2 | (with_reducible refine Kd.C_alloc ?_ _) | (with_reducible refine Kd.C_drewN ?_ _) | (with_reducible refine Kd.C_drew ?_)))
         (case side4 => exact (Kd.V_reads' HO_204001.out).2.1)
         rintro e w45 ⟨v215, rfl, ho0, hb⟩
         refine ⟨_, rfl, ?_⟩
         have n0_ := Aside0.mk (Kd.V_elder' (by (with_reducible repeat (first | apply Kd.V_alloc | apply Kd.V_drewN | apply Kd.V_drew)); exact HO_204000.out) (Kd.R_base ho0) hb)
         have n1_ := Aside0.mk (Kd.V_elder' (by (with_reducible repeat (first | apply Kd.V_alloc | apply Kd.V_drewN | apply Kd.V_drew)); exact HO_204001.out) (Kd.R_base ho0) hb)
         have n2_ := Aside0.mk (Kd.R_lower (Kd.R_newB ho0 (g := gb204) (o := .cells #[.int .i64 a1_0, .int .i64 a1_1] 23 (0, 0)) (by (with_reducible repeat (first | refine blk_drewN ?_ _ | refine blk_drew ?_ | refine blk_alloc ?_ _)); exact BK204.out)) (below_size (by repeat (first | (with_reducible first | exact HB.out | apply below_alloc | apply pw_below_drewN | apply below_drew1 | refine below_set ?_ GE203.out | refine below_set ?_ GE204.out) | exact HB.out))))
         have n3_ := Aside0.mk (blk_below (g := gb203) (o := .cells #[.slice Ao11 t206.length co11, .slice Ao13 t209.length co13] 30 (0, 0)) (by (with_reducible repeat (first | refine blk_drewN ?_ _ | refine blk_drew ?_ | refine blk_alloc ?_ _)); exact BK203.out) hb)
         have n4_ := Aside0.mk (blk_below (g := gb204) (o := .cells #[.int .i64 a1_0, .int .i64 a1_1] 23 (0, 0)) (by (with_reducible repeat (first | refine blk_drewN ?_ _ | refine blk_drew ?_ | refine blk_alloc ?_ _)); exact BK204.out) hb)
         have n5_ := Aside0.mk (below_step (by repeat (first | (with_reducible first | exact HB.out | apply below_alloc | apply pw_below_drewN | apply below_drew1 | refine below_set ?_ GE203.out | refine below_set ?_ GE204.out) | exact HB.out)) hb)
         clear HO_204000
         clear HO_204001
         clear BK203
         clear BK204
         clear HB
         have HO_204000 := n0_
         have HO_204001 := n1_
         have HO216 := n2_
         have BK203 := n3_
         have BK204 := n4_
         have HB := n5_
         clear n0_ n1_ n2_ n3_ n4_ n5_
         (try clear hb)
         (try clear hb2)
         (try clear hk)
         (try clear hi)
         (try clear ho0)
         refine hK.out _ _ ⟨(blk_cell BK203.out 0).trans rfl, (blk_cell BK203.out 1).trans rfl⟩ (fun hHeld => ?_)
         clear hK K
         refine norm_ (a' := ?_) ?_ ?_
         rotate_left
         ·show Act.put _ (some 38) _ = _
          simp only [Act.put, List.setIfInBounds_toArray, List.set_cons_zero, List.set_cons_succ, i64_w, i32_w]
          rfl
         refine one_ (i := 3) (N := some 40) #[true, true, true, true, false, false] rfl rfl (by kernel_rfl) (by decide) (fun K hK => ?_)
         refine goes_ Try.func15 (by kernel_rfl) rfl #[.agg #[.slice Ao11 t206.length co11, .slice Ao13 t209.length co13]] (by rfl) rfl rfl (by (try simp only [List.map_toArray, List.map_cons, List.map_nil]); first | done | rfl | (simp only [List.length_drop, List.length_take]; rfl)) ?_
         with_reducible refine (meanderref08_Locs.calls k1 _ _ t206 _ _ t209 t217 _ ?side1 ?side2 ?side3 ?side4 A25.out).mono ?_
         (case side1 => repeat (first | exact (Kd.V_reads' HO_204000.out).2.2 | (with_reducible refine Kd.C_alloc ?_ _) | (with_reducible refine Kd.C_drewN ?_ _) | (with_reducible refine Kd.C_drew ?_)))
         (case side2 => exact (Kd.V_reads' HO_204000.out).2.1)
         (case side3 => repeat (first | exact (Kd.V_reads' HO_204001.out).2.2 | (with_reducible refine Kd.C_alloc ?_ _) | (with_reducible refine Kd.C_drewN ?_ _) | (with_reducible refine Kd.C_drew ?_)))
         (case side4 => exact (Kd.V_reads' HO_204001.out).2.1)
         rintro e w46 ⟨v218, rfl, ho0, hb⟩
         refine ⟨_, rfl, ?_⟩
         have n0_ := Aside0.mk (Kd.V_elder' (by (with_reducible repeat (first | apply Kd.V_alloc | apply Kd.V_drewN | apply Kd.V_drew)); exact HO_204000.out) (Kd.R_base ho0) hb)
         have n1_ := Aside0.mk (Kd.V_elder' (by (with_reducible repeat (first | apply Kd.V_alloc | apply Kd.V_drewN | apply Kd.V_drew)); exact HO_204001.out) (Kd.R_base ho0) hb)
         have n2_ := Aside0.mk (Kd.R_elder' (by (with_reducible repeat (first | apply Kd.R_alloc | apply Kd.R_drewN | apply Kd.R_drew)); exact HO216.out) (Kd.R_base ho0) hb)
         have n3_ := Aside0.mk (Kd.R_lower (Kd.R_newB (Kd.R_new' ho0 (Kd.R_lt (by (with_reducible repeat (first | apply Kd.R_alloc | apply Kd.R_drewN | apply Kd.R_drew)); exact HO216.out))) (g := gb204) (o := .cells #[.int .i64 a1_0, .int .i64 a1_1] 23 (0, 0)) (by (with_reducible repeat (first | refine blk_drewN ?_ _ | refine blk_drew ?_ | refine blk_alloc ?_ _)); exact BK204.out)) (below_size (by repeat (first | (with_reducible first | exact HB.out | apply below_alloc | apply pw_below_drewN | apply below_drew1 | refine below_set ?_ GE203.out | refine below_set ?_ GE204.out) | exact HB.out))))
         have n4_ := Aside0.mk (blk_below (g := gb203) (o := .cells #[.slice Ao11 t206.length co11, .slice Ao13 t209.length co13] 30 (0, 0)) (by (with_reducible repeat (first | refine blk_drewN ?_ _ | refine blk_drew ?_ | refine blk_alloc ?_ _)); exact BK203.out) hb)
         have n5_ := Aside0.mk (blk_below (g := gb204) (o := .cells #[.int .i64 a1_0, .int .i64 a1_1] 23 (0, 0)) (by (with_reducible repeat (first | refine blk_drewN ?_ _ | refine blk_drew ?_ | refine blk_alloc ?_ _)); exact BK204.out) hb)
         have n6_ := Aside0.mk (below_step (by repeat (first | (with_reducible first | exact HB.out | apply below_alloc | apply pw_below_drewN | apply below_drew1 | refine below_set ?_ GE203.out | refine below_set ?_ GE204.out) | exact HB.out)) hb)
         clear HO_204000
         clear HO_204001
         clear HO216
         clear BK203
         clear BK204
         clear HB
         have HO_204000 := n0_
         have HO_204001 := n1_
         have HO216 := n2_
         have HO219 := n3_
         have BK203 := n4_
         have BK204 := n5_
         have HB := n6_
         clear n0_ n1_ n2_ n3_ n4_ n5_ n6_
         (try clear hb)
         (try clear hb2)
         (try clear hk)
         (try clear hi)
         (try clear ho0)
         obtain ⟨Ao47, co47, eo47⟩ := Kd.R_slice HO216.out
         (first | subst eo47 | (injection eo47 with f1_ f2_ f3_; have f4_ := f1_.symm; have f5_ := f3_.symm; clear f1_ f2_ f3_; subst f4_; subst f5_))
         obtain ⟨Ao48, co48, eo48⟩ := Kd.R_slice HO219.out
         (first | subst eo48 | (injection eo48 with f1_ f2_ f3_; have f4_ := f1_.symm; have f5_ := f3_.symm; clear f1_ f2_ f3_; subst f4_; subst f5_))
         refine hK.out _ _ ⟨(blk_cell BK203.out 0).trans rfl, (blk_cell BK203.out 1).trans rfl⟩ (fun hHeld => ?_)
         clear hK K
         refine norm_ (a' := ?_) ?_ ?_
         rotate_left
         ·show Act.put _ (some 40) _ = _
          simp only [Act.put, List.setIfInBounds_toArray, List.set_cons_zero, List.set_cons_succ, i64_w, i32_w]
          rfl
         refine one_ (i := 4) (N := some 41) #[true, true, true, true, true, false] rfl rfl (by kernel_rfl) (by decide) (fun K hK => ?_)
         refine goes_ Try.func13 (by kernel_rfl) rfl #[.slice Ao47 t214.length co47, .slice Ao48 t217.length co48] (by rfl) rfl rfl (by (try simp only [List.map_toArray, List.map_cons, List.map_nil]); first | done | rfl | (simp only [List.length_drop, List.length_take]; rfl)) ?_
         with_reducible refine (meanderref08_Same.calls k1 _ _ t214 _ _ t217 true _ ?side1 ?side2 ?side3 ?side4 A26.out).mono ?_
         (case side1 => repeat (first | exact (Kd.R_reads' HO216.out).2.2 | (with_reducible refine Kd.C_alloc ?_ _) | (with_reducible refine Kd.C_drewN ?_ _) | (with_reducible refine Kd.C_drew ?_)))
         (case side2 => exact (Kd.R_reads' HO216.out).2.1)
         (case side3 => repeat (first | exact (Kd.R_reads' HO219.out).2.2 | (with_reducible refine Kd.C_alloc ?_ _) | (with_reducible refine Kd.C_drewN ?_ _) | (with_reducible refine Kd.C_drew ?_)))
         (case side4 => exact (Kd.R_reads' HO219.out).2.1)
         rintro e w' ⟨rfl, ⟨nd, rfl⟩⟩
         refine ⟨_, rfl, ?_⟩
         refine hK.out _ _ ⟨(blk_cell BK203.out 0).trans rfl, (blk_cell BK203.out 1).trans rfl⟩ (fun hHeld => ?_)
         clear hK K
         refine norm_ (a' := ?_) ?_ ?_
         rotate_left
         ·show Act.put _ (some 41) _ = _
          simp only [Act.put, List.setIfInBounds_toArray, List.set_cons_zero, List.set_cons_succ, i64_w, i32_w]
          rfl
         refine pure_ (i := 5) (N := some 7) (v := ?_) (a' := ?_) #[true, true, true, true, true, true] rfl rfl (by kernel_rfl) (fun _ _ _ h => h) (Or.inl ⟨by rfl, ?_⟩) ?_ ?_
         rotate_left
         ·intro w'
          go_simp
          with_reducible rfl
         rotate_left
         ·simp only [Act.put, List.setIfInBounds_toArray, List.set_cons_zero, List.set_cons_succ, i64_w, i32_w]
          rfl
         refine done_ (by kernel_rfl) ?_
         try go_wp2
         (try (rw [drewN_self w46]; generalize hq_ : World.drewN w46 _ = w46; have n0_ : Aside0 (Kd.R k23 23 w46 w.heap.size (fun k_ => some k_ ≠ (.slice Ao48 t217.length co48 : Value).ownBlock ∧ k_ ≠ gb204) (.slice Ao47 t214.length co47) t214) := ⟨by rw [← hq_]; exact (by (with_reducible repeat (first | apply Kd.R_alloc | apply Kd.R_drewN | apply Kd.R_drew)); exact Kd.R_mono HO216.out (fun _ hk => (by (repeat' refine And.intro ?_ ?_) <;> (first | exact hk | exact hk.1 | exact hk.2 | exact hk.2.1 | exact hk.2.2 | exact hk.2.2.1 | exact hk.2.2.2 | exact hk.2.2.2.1 | exact hk.2.2.2.2 | exact hk.2.2.2.2.1 | exact hk.2.2.2.2.2 | exact hk.2.2.2.2.2.1 | exact hk.1.1 | exact hk.1.2 | exact hk.1.2.1 | exact hk.1.2.2 | exact hk.1.2.2.1 | exact hk.1.2.2.2 | exact hk.1.2.2.2.1 | exact hk.1.2.2.2.2 | exact hk.1.2.2.2.2.1 | exact hk.1.2.2.2.2.2 | exact hk.1.2.2.2.2.2.1 | exact hk.1.1.1 | exact hk.1.1.2 | exact hk.1.1.2.1 | exact hk.1.1.2.2 | exact hk.1.1.2.2.1 | exact hk.1.1.2.2.2 | exact hk.1.1.2.2.2.1 | exact hk.1.1.2.2.2.2 | exact hk.1.1.2.2.2.2.1 | exact hk.1.1.2.2.2.2.2 | exact hk.1.1.2.2.2.2.2.1 | exact hk.1.1.1.1 | exact hk.1.1.1.2 | exact hk.1.1.1.2.1 | exact hk.1.1.1.2.2 | exact hk.1.1.1.2.2.1 | exact hk.1.1.1.2.2.2 | exact hk.1.1.1.2.2.2.1 | exact hk.1.1.1.2.2.2.2 | exact hk.1.1.1.2.2.2.2.1 | exact hk.1.1.1.2.2.2.2.2 | exact hk.1.1.1.2.2.2.2.2.1 | exact hk.1.1.1.1.1 | exact hk.1.1.1.1.2 | exact hk.1.1.1.1.2.1 | exact hk.1.1.1.1.2.2 | exact hk.1.1.1.1.2.2.1 | exact hk.1.1.1.1.2.2.2 | exact hk.1.1.1.1.2.2.2.1 | exact hk.1.1.1.1.2.2.2.2 | exact hk.1.1.1.1.2.2.2.2.1 | exact hk.1.1.1.1.2.2.2.2.2 | exact hk.1.1.1.1.2.2.2.2.2.1 | exact hk.1.1.1.1.1.1 | exact hk.1.1.1.1.1.2 | exact hk.1.1.1.1.1.2.1 | exact hk.1.1.1.1.1.2.2 | exact hk.1.1.1.1.1.2.2.1 | exact hk.1.1.1.1.1.2.2.2 | exact hk.1.1.1.1.1.2.2.2.1 | exact hk.1.1.1.1.1.2.2.2.2 | exact hk.1.1.1.1.1.2.2.2.2.1 | exact hk.1.1.1.1.1.2.2.2.2.2 | exact hk.1.1.1.1.1.2.2.2.2.2.1 | exact hk.1.1.1.1.1.1.1 | exact hk.1.1.1.1.1.1.2 | exact hk.1.1.1.1.1.1.2.1 | exact hk.1.1.1.1.1.1.2.2 | exact hk.1.1.1.1.1.1.2.2.1 | exact hk.1.1.1.1.1.1.2.2.2 | exact hk.1.1.1.1.1.1.2.2.2.1 | exact hk.1.1.1.1.1.1.2.2.2.2 | exact hk.1.1.1.1.1.1.2.2.2.2.1 | exact hk.1.1.1.1.1.1.2.2.2.2.2 | exact hk.1.1.1.1.1.1.2.2.2.2.2.1 | exact hk.1.1.1.1.1.1.1.1 | exact hk.1.1.1.1.1.1.1.2 | exact hk.1.1.1.1.1.1.1.2.1 | exact hk.1.1.1.1.1.1.1.2.2 | exact hk.1.1.1.1.1.1.1.2.2.1 | exact hk.1.1.1.1.1.1.1.2.2.2 | exact hk.1.1.1.1.1.1.1.2.2.2.1 | exact hk.1.1.1.1.1.1.1.2.2.2.2 | exact hk.1.1.1.1.1.1.1.2.2.2.2.1 | exact hk.1.1.1.1.1.1.1.2.2.2.2.2 | exact hk.1.1.1.1.1.1.1.2.2.2.2.2.1))))⟩; have n1_ : Aside0 (Kd.R k23 23 w46 w.heap.size (fun k_ => some k_ ≠ (.slice Ao47 t214.length co47 : Value).ownBlock ∧ k_ ≠ gb204) (.slice Ao48 t217.length co48) t217) := ⟨by rw [← hq_]; exact (by (with_reducible repeat (first | apply Kd.R_alloc | apply Kd.R_drewN | apply Kd.R_drew)); exact Kd.R_mono HO219.out (fun _ hk => (by (repeat' refine And.intro ?_ ?_) <;> (first | exact hk | exact hk.1 | exact hk.2 | exact hk.2.1 | exact hk.2.2 | exact hk.2.2.1 | exact hk.2.2.2 | exact hk.2.2.2.1 | exact hk.2.2.2.2 | exact hk.2.2.2.2.1 | exact hk.2.2.2.2.2 | exact hk.2.2.2.2.2.1 | exact hk.1.1 | exact hk.1.2 | exact hk.1.2.1 | exact hk.1.2.2 | exact hk.1.2.2.1 | exact hk.1.2.2.2 | exact hk.1.2.2.2.1 | exact hk.1.2.2.2.2 | exact hk.1.2.2.2.2.1 | exact hk.1.2.2.2.2.2 | exact hk.1.2.2.2.2.2.1 | exact hk.1.1.1 | exact hk.1.1.2 | exact hk.1.1.2.1 | exact hk.1.1.2.2 | exact hk.1.1.2.2.1 | exact hk.1.1.2.2.2 | exact hk.1.1.2.2.2.1 | exact hk.1.1.2.2.2.2 | exact hk.1.1.2.2.2.2.1 | exact hk.1.1.2.2.2.2.2 | exact hk.1.1.2.2.2.2.2.1 | exact hk.1.1.1.1 | exact hk.1.1.1.2 | exact hk.1.1.1.2.1 | exact hk.1.1.1.2.2 | exact hk.1.1.1.2.2.1 | exact hk.1.1.1.2.2.2 | exact hk.1.1.1.2.2.2.1 | exact hk.1.1.1.2.2.2.2 | exact hk.1.1.1.2.2.2.2.1 | exact hk.1.1.1.2.2.2.2.2 | exact hk.1.1.1.2.2.2.2.2.1 | exact hk.1.1.1.1.1 | exact hk.1.1.1.1.2 | exact hk.1.1.1.1.2.1 | exact hk.1.1.1.1.2.2 | exact hk.1.1.1.1.2.2.1 | exact hk.1.1.1.1.2.2.2 | exact hk.1.1.1.1.2.2.2.1 | exact hk.1.1.1.1.2.2.2.2 | exact hk.1.1.1.1.2.2.2.2.1 | exact hk.1.1.1.1.2.2.2.2.2 | exact hk.1.1.1.1.2.2.2.2.2.1 | exact hk.1.1.1.1.1.1 | exact hk.1.1.1.1.1.2 | exact hk.1.1.1.1.1.2.1 | exact hk.1.1.1.1.1.2.2 | exact hk.1.1.1.1.1.2.2.1 | exact hk.1.1.1.1.1.2.2.2 | exact hk.1.1.1.1.1.2.2.2.1 | exact hk.1.1.1.1.1.2.2.2.2 | exact hk.1.1.1.1.1.2.2.2.2.1 | exact hk.1.1.1.1.1.2.2.2.2.2 | exact hk.1.1.1.1.1.2.2.2.2.2.1 | exact hk.1.1.1.1.1.1.1 | exact hk.1.1.1.1.1.1.2 | exact hk.1.1.1.1.1.1.2.1 | exact hk.1.1.1.1.1.1.2.2 | exact hk.1.1.1.1.1.1.2.2.1 | exact hk.1.1.1.1.1.1.2.2.2 | exact hk.1.1.1.1.1.1.2.2.2.1 | exact hk.1.1.1.1.1.1.2.2.2.2 | exact hk.1.1.1.1.1.1.2.2.2.2.1 | exact hk.1.1.1.1.1.1.2.2.2.2.2 | exact hk.1.1.1.1.1.1.2.2.2.2.2.1 | exact hk.1.1.1.1.1.1.1.1 | exact hk.1.1.1.1.1.1.1.2 | exact hk.1.1.1.1.1.1.1.2.1 | exact hk.1.1.1.1.1.1.1.2.2 | exact hk.1.1.1.1.1.1.1.2.2.1 | exact hk.1.1.1.1.1.1.1.2.2.2 | exact hk.1.1.1.1.1.1.1.2.2.2.1 | exact hk.1.1.1.1.1.1.1.2.2.2.2 | exact hk.1.1.1.1.1.1.1.2.2.2.2.1 | exact hk.1.1.1.1.1.1.1.2.2.2.2.2 | exact hk.1.1.1.1.1.1.1.2.2.2.2.2.1))))⟩; have n2_ : Aside0 (Kd.V k38 38 w46 w.heap.size (fun k_ => some k_ ≠ (.slice Ao47 t214.length co47 : Value).ownBlock ∧ some k_ ≠ (.slice Ao48 t217.length co48 : Value).ownBlock ∧ k_ ≠ gb203 ∧ k_ ≠ gb204) (.slice Ao11 t206.length co11) t206) := ⟨by rw [← hq_]; exact (by (with_reducible repeat (first | apply Kd.V_alloc | apply Kd.V_drewN | apply Kd.V_drew)); exact Kd.V_mono HO_204000.out (fun _ hk => (by (repeat' refine And.intro ?_ ?_) <;> (first | exact hk | exact hk.1 | exact hk.2 | exact hk.2.1 | exact hk.2.2 | exact hk.2.2.1 | exact hk.2.2.2 | exact hk.2.2.2.1 | exact hk.2.2.2.2 | exact hk.2.2.2.2.1 | exact hk.2.2.2.2.2 | exact hk.2.2.2.2.2.1 | exact hk.1.1 | exact hk.1.2 | exact hk.1.2.1 | exact hk.1.2.2 | exact hk.1.2.2.1 | exact hk.1.2.2.2 | exact hk.1.2.2.2.1 | exact hk.1.2.2.2.2 | exact hk.1.2.2.2.2.1 | exact hk.1.2.2.2.2.2 | exact hk.1.2.2.2.2.2.1 | exact hk.1.1.1 | exact hk.1.1.2 | exact hk.1.1.2.1 | exact hk.1.1.2.2 | exact hk.1.1.2.2.1 | exact hk.1.1.2.2.2 | exact hk.1.1.2.2.2.1 | exact hk.1.1.2.2.2.2 | exact hk.1.1.2.2.2.2.1 | exact hk.1.1.2.2.2.2.2 | exact hk.1.1.2.2.2.2.2.1 | exact hk.1.1.1.1 | exact hk.1.1.1.2 | exact hk.1.1.1.2.1 | exact hk.1.1.1.2.2 | exact hk.1.1.1.2.2.1 | exact hk.1.1.1.2.2.2 | exact hk.1.1.1.2.2.2.1 | exact hk.1.1.1.2.2.2.2 | exact hk.1.1.1.2.2.2.2.1 | exact hk.1.1.1.2.2.2.2.2 | exact hk.1.1.1.2.2.2.2.2.1 | exact hk.1.1.1.1.1 | exact hk.1.1.1.1.2 | exact hk.1.1.1.1.2.1 | exact hk.1.1.1.1.2.2 | exact hk.1.1.1.1.2.2.1 | exact hk.1.1.1.1.2.2.2 | exact hk.1.1.1.1.2.2.2.1 | exact hk.1.1.1.1.2.2.2.2 | exact hk.1.1.1.1.2.2.2.2.1 | exact hk.1.1.1.1.2.2.2.2.2 | exact hk.1.1.1.1.2.2.2.2.2.1 | exact hk.1.1.1.1.1.1 | exact hk.1.1.1.1.1.2 | exact hk.1.1.1.1.1.2.1 | exact hk.1.1.1.1.1.2.2 | exact hk.1.1.1.1.1.2.2.1 | exact hk.1.1.1.1.1.2.2.2 | exact hk.1.1.1.1.1.2.2.2.1 | exact hk.1.1.1.1.1.2.2.2.2 | exact hk.1.1.1.1.1.2.2.2.2.1 | exact hk.1.1.1.1.1.2.2.2.2.2 | exact hk.1.1.1.1.1.2.2.2.2.2.1 | exact hk.1.1.1.1.1.1.1 | exact hk.1.1.1.1.1.1.2 | exact hk.1.1.1.1.1.1.2.1 | exact hk.1.1.1.1.1.1.2.2 | exact hk.1.1.1.1.1.1.2.2.1 | exact hk.1.1.1.1.1.1.2.2.2 | exact hk.1.1.1.1.1.1.2.2.2.1 | exact hk.1.1.1.1.1.1.2.2.2.2 | exact hk.1.1.1.1.1.1.2.2.2.2.1 | exact hk.1.1.1.1.1.1.2.2.2.2.2 | exact hk.1.1.1.1.1.1.2.2.2.2.2.1 | exact hk.1.1.1.1.1.1.1.1 | exact hk.1.1.1.1.1.1.1.2 | exact hk.1.1.1.1.1.1.1.2.1 | exact hk.1.1.1.1.1.1.1.2.2 | exact hk.1.1.1.1.1.1.1.2.2.1 | exact hk.1.1.1.1.1.1.1.2.2.2 | exact hk.1.1.1.1.1.1.1.2.2.2.1 | exact hk.1.1.1.1.1.1.1.2.2.2.2 | exact hk.1.1.1.1.1.1.1.2.2.2.2.1 | exact hk.1.1.1.1.1.1.1.2.2.2.2.2 | exact hk.1.1.1.1.1.1.1.2.2.2.2.2.1))))⟩; have n3_ : Aside0 (Kd.V k35 35 w46 w.heap.size (fun k_ => some k_ ≠ (.slice Ao47 t214.length co47 : Value).ownBlock ∧ some k_ ≠ (.slice Ao48 t217.length co48 : Value).ownBlock ∧ k_ ≠ gb203 ∧ k_ ≠ gb204) (.slice Ao13 t209.length co13) t209) := ⟨by rw [← hq_]; exact (by (with_reducible repeat (first | apply Kd.V_alloc | apply Kd.V_drewN | apply Kd.V_drew)); exact Kd.V_mono HO_204001.out (fun _ hk => (by (repeat' refine And.intro ?_ ?_) <;> (first | exact hk | exact hk.1 | exact hk.2 | exact hk.2.1 | exact hk.2.2 | exact hk.2.2.1 | exact hk.2.2.2 | exact hk.2.2.2.1 | exact hk.2.2.2.2 | exact hk.2.2.2.2.1 | exact hk.2.2.2.2.2 | exact hk.2.2.2.2.2.1 | exact hk.1.1 | exact hk.1.2 | exact hk.1.2.1 | exact hk.1.2.2 | exact hk.1.2.2.1 | exact hk.1.2.2.2 | exact hk.1.2.2.2.1 | exact hk.1.2.2.2.2 | exact hk.1.2.2.2.2.1 | exact hk.1.2.2.2.2.2 | exact hk.1.2.2.2.2.2.1 | exact hk.1.1.1 | exact hk.1.1.2 | exact hk.1.1.2.1 | exact hk.1.1.2.2 | exact hk.1.1.2.2.1 | exact hk.1.1.2.2.2 | exact hk.1.1.2.2.2.1 | exact hk.1.1.2.2.2.2 | exact hk.1.1.2.2.2.2.1 | exact hk.1.1.2.2.2.2.2 | exact hk.1.1.2.2.2.2.2.1 | exact hk.1.1.1.1 | exact hk.1.1.1.2 | exact hk.1.1.1.2.1 | exact hk.1.1.1.2.2 | exact hk.1.1.1.2.2.1 | exact hk.1.1.1.2.2.2 | exact hk.1.1.1.2.2.2.1 | exact hk.1.1.1.2.2.2.2 | exact hk.1.1.1.2.2.2.2.1 | exact hk.1.1.1.2.2.2.2.2 | exact hk.1.1.1.2.2.2.2.2.1 | exact hk.1.1.1.1.1 | exact hk.1.1.1.1.2 | exact hk.1.1.1.1.2.1 | exact hk.1.1.1.1.2.2 | exact hk.1.1.1.1.2.2.1 | exact hk.1.1.1.1.2.2.2 | exact hk.1.1.1.1.2.2.2.1 | exact hk.1.1.1.1.2.2.2.2 | exact hk.1.1.1.1.2.2.2.2.1 | exact hk.1.1.1.1.2.2.2.2.2 | exact hk.1.1.1.1.2.2.2.2.2.1 | exact hk.1.1.1.1.1.1 | exact hk.1.1.1.1.1.2 | exact hk.1.1.1.1.1.2.1 | exact hk.1.1.1.1.1.2.2 | exact hk.1.1.1.1.1.2.2.1 | exact hk.1.1.1.1.1.2.2.2 | exact hk.1.1.1.1.1.2.2.2.1 | exact hk.1.1.1.1.1.2.2.2.2 | exact hk.1.1.1.1.1.2.2.2.2.1 | exact hk.1.1.1.1.1.2.2.2.2.2 | exact hk.1.1.1.1.1.2.2.2.2.2.1 | exact hk.1.1.1.1.1.1.1 | exact hk.1.1.1.1.1.1.2 | exact hk.1.1.1.1.1.1.2.1 | exact hk.1.1.1.1.1.1.2.2 | exact hk.1.1.1.1.1.1.2.2.1 | exact hk.1.1.1.1.1.1.2.2.2 | exact hk.1.1.1.1.1.1.2.2.2.1 | exact hk.1.1.1.1.1.1.2.2.2.2 | exact hk.1.1.1.1.1.1.2.2.2.2.1 | exact hk.1.1.1.1.1.1.2.2.2.2.2 | exact hk.1.1.1.1.1.1.2.2.2.2.2.1 | exact hk.1.1.1.1.1.1.1.1 | exact hk.1.1.1.1.1.1.1.2 | exact hk.1.1.1.1.1.1.1.2.1 | exact hk.1.1.1.1.1.1.1.2.2 | exact hk.1.1.1.1.1.1.1.2.2.1 | exact hk.1.1.1.1.1.1.1.2.2.2 | exact hk.1.1.1.1.1.1.1.2.2.2.1 | exact hk.1.1.1.1.1.1.1.2.2.2.2 | exact hk.1.1.1.1.1.1.1.2.2.2.2.1 | exact hk.1.1.1.1.1.1.1.2.2.2.2.2 | exact hk.1.1.1.1.1.1.1.2.2.2.2.2.1))))⟩; have n4_ : Aside0 (w46.heap[gb203]? = some (.cells #[.slice Ao11 t206.length co11, .slice Ao13 t209.length co13] 30 (0, 0))) := ⟨by rw [← hq_]; exact (by (with_reducible repeat (first | refine blk_drewN ?_ _ | refine blk_drew ?_ | refine blk_alloc ?_ _)); exact BK203.out)⟩; have n5_ : Aside0 (w46.heap[gb204]? = some (.cells #[.int .i64 a1_0, .int .i64 a1_1] 23 (0, 0))) := ⟨by rw [← hq_]; exact (by (with_reducible repeat (first | refine blk_drewN ?_ _ | refine blk_drew ?_ | refine blk_alloc ?_ _)); exact BK204.out)⟩; have n6_ : Aside0 (Below w.heap.size w w46) := ⟨by rw [← hq_]; exact (by repeat (first | (with_reducible first | exact HB.out | apply below_alloc | apply pw_below_drewN | apply below_drew1 | refine below_set ?_ GE203.out | refine below_set ?_ GE204.out) | exact HB.out))⟩; clear HO216 HO219 HO_204000 HO_204001 BK203 BK204 HB hq_; have HO216 := n0_; have HO219 := n1_; have HO_204000 := n2_; have HO_204001 := n3_; have BK203 := n4_; have BK204 := n5_; have HB := n6_; clear n0_ n1_ n2_ n3_ n4_ n5_ n6_))
         have n0_ := Aside0.mk (Kd.V_drew HO_204000.out)
         have n1_ := Aside0.mk (Kd.V_drew HO_204001.out)
         have n2_ := Aside0.mk (Kd.R_drew HO216.out)
         have n3_ := Aside0.mk (Kd.R_drew HO219.out)
         have n4_ := Aside0.mk (blk_drew BK203.out)
         have n5_ := Aside0.mk (blk_drew BK204.out)
         have n6_ := Aside0.mk (below_drew1 HB.out)
         clear HO_204000
         clear HO_204001
         clear HO216
         clear HO219
         clear BK203
         clear BK204
         clear HB
         have HO_204000 := n0_
         have HO_204001 := n1_
         have HO216 := n2_
         have HO219 := n3_
         have BK203 := n4_
         have BK204 := n5_
         have HB := n6_
         clear n0_ n1_ n2_ n3_ n4_ n5_ n6_
         refine start_ (n := 10) (S := fun w' => w'.cell? ⟨gb203, 0, none⟩ = some (.slice Ao11 t206.length co11) ∧ w'.cell? ⟨gb203, 1, none⟩ = some (.slice Ao13 t209.length co13) ∧ w'.cell? ⟨gb204, 0, none⟩ = some (.int .i64 a1_0) ∧ w'.cell? ⟨gb204, 1, none⟩ = some (.int .i64 a1_1)) (ds := []) #[false, false, false, false, false, false, false, false, false, false] (by kernel_rfl) rfl rfl ⟨(blk_cell BK203.out 0).trans rfl, (blk_cell BK203.out 1).trans rfl, (blk_cell BK204.out 0).trans rfl, (blk_cell BK204.out 1).trans rfl⟩ (fun hHeld => ?_); refine with_tabW meanderlaw08_GraphPlaces.tab9 meanderlaw08_GraphPlaces.bits9 (fun HT_ HW_ => ?_)
         generalize w46.drew = w49 at HO_204000 HO_204001 HO216 HO219 BK203 BK204 HB hHeld ⊢
         refine pure_ (i := 1) (N := some 43) (v := ?_) (a' := ?_) #[false, true, false, false, false, false, false, false, false, false] rfl rfl (any_of HT_.out (by kernel_rfl)) (fun _ _ _ h => h) (Or.inl ⟨by rfl, ?_⟩) ?_ ?_
         rotate_left
         ·intro w'
          go_simp
          with_reducible rfl
         rotate_left
         ·simp only [Act.put, List.setIfInBounds_toArray, List.set_cons_zero, List.set_cons_succ, i64_w, i32_w]
          rfl
         refine pure_ (i := 5) (N := some 47) (v := ?_) (a' := ?_) #[false, true, false, false, false, true, false, false, false, false] rfl rfl (any_of HT_.out (by kernel_rfl)) (fun _ _ _ h => h) (Or.inl ⟨by rfl, ?_⟩) ?_ ?_
         rotate_left
         ·intro w'
          go_simp
          with_reducible rfl
         rotate_left
         ·simp only [Act.put, List.setIfInBounds_toArray, List.set_cons_zero, List.set_cons_succ, i64_w, i32_w]
          rfl
         refine take_ (i := 0) (N := some 42) (v := ?_) (a' := ?_) #[true, true, false, false, false, true, false, false, false, false] rfl rfl (take_ofW HT_.out HW_.out (by kernel_rfl)) (fun _ _ _ h => h) (Or.inl ⟨by rfl, ?_⟩) hHeld ?_ ?_
         rotate_left
         ·rintro w' ⟨s0, s1, s2, s3⟩
          go_simp
          with_reducible rfl
         rotate_left
         ·simp only [Act.put, List.setIfInBounds_toArray, List.set_cons_zero, List.set_cons_succ, i64_w, i32_w]
          rfl
         refine take_ (i := 2) (N := some 44) (v := ?_) (a' := ?_) #[true, true, true, false, false, true, false, false, false, false] rfl rfl (take_ofW HT_.out HW_.out (by kernel_rfl)) (fun _ _ _ h => h) (Or.inl ⟨by rfl, ?_⟩) hHeld ?_ ?_
         rotate_left
         ·rintro w' ⟨s0, s1, s2, s3⟩
          go_simp
          with_reducible rfl
         rotate_left
         ·simp only [Act.put, List.setIfInBounds_toArray, List.set_cons_zero, List.set_cons_succ, i64_w, i32_w]
          rfl
         refine take_ (i := 4) (N := some 46) (v := ?_) (a' := ?_) #[true, true, true, false, true, true, false, false, false, false] rfl rfl (take_ofW HT_.out HW_.out (by kernel_rfl)) (fun _ _ _ h => h) (Or.inl ⟨by rfl, ?_⟩) hHeld ?_ ?_
         rotate_left
         ·rintro w' ⟨s0, s1, s2, s3⟩
          go_simp
          with_reducible rfl
         rotate_left
         ·simp only [Act.put, List.setIfInBounds_toArray, List.set_cons_zero, List.set_cons_succ, i64_w, i32_w]
          rfl
         refine take_ (i := 6) (N := some 48) (v := ?_) (a' := ?_) #[true, true, true, false, true, true, true, false, false, false] rfl rfl (take_ofW HT_.out HW_.out (by kernel_rfl)) (fun _ _ _ h => h) (Or.inl ⟨by rfl, ?_⟩) hHeld ?_ ?_
         rotate_left
         ·rintro w' ⟨s0, s1, s2, s3⟩
          go_simp
          with_reducible rfl
         rotate_left
         ·simp only [Act.put, List.setIfInBounds_toArray, List.set_cons_zero, List.set_cons_succ, i64_w, i32_w]
          rfl
         refine one_ (i := 3) (N := some 45) #[true, true, true, true, true, true, true, false, false, false] rfl rfl (one_of HT_.out (by kernel_rfl)) (by decide) (fun K hK => ?_)
         refine goes_ Try.func12 (by kernel_rfl) rfl #[.agg #[.slice Ao11 t206.length co11, .slice Ao13 t209.length co13], .int .i64 a1_0] (by rfl) rfl rfl (by (try simp only [List.map_toArray, List.map_cons, List.map_nil]); first | done | rfl | (simp only [List.length_drop, List.length_take]; rfl)) ?_
         with_reducible refine (graph_Next.calls k1 _ _ t206 _ _ t209 a1_0 t221 _ ?side1 ?side2 ?side3 ?side4 A27.out).mono ?_
         (case side1 => repeat (first | exact (Kd.V_reads' HO_204000.out).2.2 | (with_reducible refine Kd.C_alloc ?_ _) | (with_reducible refine Kd.C_drewN ?_ _) | (with_reducible refine Kd.C_drew ?_)))
         (case side2 => exact (Kd.V_reads' HO_204000.out).2.1)
         (case side3 => repeat (first | exact (Kd.V_reads' HO_204001.out).2.2 | (with_reducible refine Kd.C_alloc ?_ _) | (with_reducible refine Kd.C_drewN ?_ _) | (with_reducible refine Kd.C_drew ?_)))
         (case side4 => exact (Kd.V_reads' HO_204001.out).2.1)
         rintro e w50 ⟨v222, rfl, ho0, hb⟩
         refine ⟨_, rfl, ?_⟩
         have n0_ := Aside0.mk (Kd.V_elder' (by (with_reducible repeat (first | apply Kd.V_alloc | apply Kd.V_drewN | apply Kd.V_drew)); exact HO_204000.out) (Kd.R_base ho0) hb)
         have n1_ := Aside0.mk (Kd.V_elder' (by (with_reducible repeat (first | apply Kd.V_alloc | apply Kd.V_drewN | apply Kd.V_drew)); exact HO_204001.out) (Kd.R_base ho0) hb)
         have n2_ := Aside0.mk (Kd.R_elder' (by (with_reducible repeat (first | apply Kd.R_alloc | apply Kd.R_drewN | apply Kd.R_drew)); exact HO216.out) (Kd.R_base ho0) hb)
         have n3_ := Aside0.mk (Kd.R_elder' (by (with_reducible repeat (first | apply Kd.R_alloc | apply Kd.R_drewN | apply Kd.R_drew)); exact HO219.out) (Kd.R_base ho0) hb)
         have n4_ := Aside0.mk (Kd.R_lower (Kd.R_newB (Kd.R_new' (Kd.R_new' ho0 (Kd.R_lt (by (with_reducible repeat (first | apply Kd.R_alloc | apply Kd.R_drewN | apply Kd.R_drew)); exact HO216.out))) (Kd.R_lt (by (with_reducible repeat (first | apply Kd.R_alloc | apply Kd.R_drewN | apply Kd.R_drew)); exact HO219.out))) (g := gb204) (o := .cells #[.int .i64 a1_0, .int .i64 a1_1] 23 (0, 0)) (by (with_reducible repeat (first | refine blk_drewN ?_ _ | refine blk_drew ?_ | refine blk_alloc ?_ _)); exact BK204.out)) (below_size (by repeat (first | (with_reducible first | exact HB.out | apply below_alloc | apply pw_below_drewN | apply below_drew1 | refine below_set ?_ GE203.out | refine below_set ?_ GE204.out) | exact HB.out))))
         have n5_ := Aside0.mk (blk_below (g := gb203) (o := .cells #[.slice Ao11 t206.length co11, .slice Ao13 t209.length co13] 30 (0, 0)) (by (with_reducible repeat (first | refine blk_drewN ?_ _ | refine blk_drew ?_ | refine blk_alloc ?_ _)); exact BK203.out) hb)
         have n6_ := Aside0.mk (blk_below (g := gb204) (o := .cells #[.int .i64 a1_0, .int .i64 a1_1] 23 (0, 0)) (by (with_reducible repeat (first | refine blk_drewN ?_ _ | refine blk_drew ?_ | refine blk_alloc ?_ _)); exact BK204.out) hb)
         have n7_ := Aside0.mk (below_step (by repeat (first | (with_reducible first | exact HB.out | apply below_alloc | apply pw_below_drewN | apply below_drew1 | refine below_set ?_ GE203.out | refine below_set ?_ GE204.out) | exact HB.out)) hb)
         clear HO_204000
         clear HO_204001
         clear HO216
         clear HO219
         clear BK203
         clear BK204
         clear HB
         have HO_204000 := n0_
         have HO_204001 := n1_
         have HO216 := n2_
         have HO219 := n3_
         have HO223 := n4_
         have BK203 := n5_
         have BK204 := n6_
         have HB := n7_
         clear n0_ n1_ n2_ n3_ n4_ n5_ n6_ n7_
         (try clear hb)
         (try clear hb2)
         (try clear hk)
         (try clear hi)
         (try clear ho0)
         refine hK.out _ _ ⟨(blk_cell BK203.out 0).trans rfl, (blk_cell BK203.out 1).trans rfl, (blk_cell BK204.out 0).trans rfl, (blk_cell BK204.out 1).trans rfl⟩ (fun hHeld => ?_)
         clear hK K
         refine norm_ (a' := ?_) ?_ ?_
         rotate_left
         ·show Act.put _ (some 45) _ = _
          simp only [Act.put, List.setIfInBounds_toArray, List.set_cons_zero, List.set_cons_succ, i64_w, i32_w]
          rfl
         refine one_ (i := 7) (N := some 49) #[true, true, true, true, true, true, true, true, false, false] rfl rfl (one_of HT_.out (by kernel_rfl)) (by decide) (fun K hK => ?_)
         refine goes_ Try.func16 (by kernel_rfl) rfl #[.agg #[.slice Ao11 t206.length co11, .slice Ao13 t209.length co13], .int .i64 a1_0] (by rfl) rfl rfl (by (try simp only [List.map_toArray, List.map_cons, List.map_nil]); first | done | rfl | (simp only [List.length_drop, List.length_take]; rfl)) ?_
         with_reducible refine (meanderref08_Next.calls k1 _ _ t206 _ _ t209 a1_0 t224 _ ?side1 ?side2 ?side3 ?side4 A28.out).mono ?_
         (case side1 => repeat (first | exact (Kd.V_reads' HO_204000.out).2.2 | (with_reducible refine Kd.C_alloc ?_ _) | (with_reducible refine Kd.C_drewN ?_ _) | (with_reducible refine Kd.C_drew ?_)))
         (case side2 => exact (Kd.V_reads' HO_204000.out).2.1)
         (case side3 => repeat (first | exact (Kd.V_reads' HO_204001.out).2.2 | (with_reducible refine Kd.C_alloc ?_ _) | (with_reducible refine Kd.C_drewN ?_ _) | (with_reducible refine Kd.C_drew ?_)))
         (case side4 => exact (Kd.V_reads' HO_204001.out).2.1)
         rintro e w51 ⟨v225, rfl, ho0, hb⟩
         refine ⟨_, rfl, ?_⟩
         have n0_ := Aside0.mk (Kd.V_elder' (by (with_reducible repeat (first | apply Kd.V_alloc | apply Kd.V_drewN | apply Kd.V_drew)); exact HO_204000.out) (Kd.R_base ho0) hb)
         have n1_ := Aside0.mk (Kd.V_elder' (by (with_reducible repeat (first | apply Kd.V_alloc | apply Kd.V_drewN | apply Kd.V_drew)); exact HO_204001.out) (Kd.R_base ho0) hb)
         have n2_ := Aside0.mk (Kd.R_elder' (by (with_reducible repeat (first | apply Kd.R_alloc | apply Kd.R_drewN | apply Kd.R_drew)); exact HO216.out) (Kd.R_base ho0) hb)
         have n3_ := Aside0.mk (Kd.R_elder' (by (with_reducible repeat (first | apply Kd.R_alloc | apply Kd.R_drewN | apply Kd.R_drew)); exact HO219.out) (Kd.R_base ho0) hb)
         have n4_ := Aside0.mk (Kd.R_elder' (by (with_reducible repeat (first | apply Kd.R_alloc | apply Kd.R_drewN | apply Kd.R_drew)); exact HO223.out) (Kd.R_base ho0) hb)
         have n5_ := Aside0.mk (Kd.R_lower (Kd.R_newB (Kd.R_new' (Kd.R_new' (Kd.R_new' ho0 (Kd.R_lt (by (with_reducible repeat (first | apply Kd.R_alloc | apply Kd.R_drewN | apply Kd.R_drew)); exact HO216.out))) (Kd.R_lt (by (with_reducible repeat (first | apply Kd.R_alloc | apply Kd.R_drewN | apply Kd.R_drew)); exact HO219.out))) (Kd.R_lt (by (with_reducible repeat (first | apply Kd.R_alloc | apply Kd.R_drewN | apply Kd.R_drew)); exact HO223.out))) (g := gb204) (o := .cells #[.int .i64 a1_0, .int .i64 a1_1] 23 (0, 0)) (by (with_reducible repeat (first | refine blk_drewN ?_ _ | refine blk_drew ?_ | refine blk_alloc ?_ _)); exact BK204.out)) (below_size (by repeat (first | (with_reducible first | exact HB.out | apply below_alloc | apply pw_below_drewN | apply below_drew1 | refine below_set ?_ GE203.out | refine below_set ?_ GE204.out) | exact HB.out))))
         have n6_ := Aside0.mk (blk_below (g := gb203) (o := .cells #[.slice Ao11 t206.length co11, .slice Ao13 t209.length co13] 30 (0, 0)) (by (with_reducible repeat (first | refine blk_drewN ?_ _ | refine blk_drew ?_ | refine blk_alloc ?_ _)); exact BK203.out) hb)
         have n7_ := Aside0.mk (blk_below (g := gb204) (o := .cells #[.int .i64 a1_0, .int .i64 a1_1] 23 (0, 0)) (by (with_reducible repeat (first | refine blk_drewN ?_ _ | refine blk_drew ?_ | refine blk_alloc ?_ _)); exact BK204.out) hb)
         have n8_ := Aside0.mk (below_step (by repeat (first | (with_reducible first | exact HB.out | apply below_alloc | apply pw_below_drewN | apply below_drew1 | refine below_set ?_ GE203.out | refine below_set ?_ GE204.out) | exact HB.out)) hb)
         clear HO_204000
         clear HO_204001
         clear HO216
         clear HO219
         clear HO223
         clear BK203
         clear BK204
         clear HB
         have HO_204000 := n0_
         have HO_204001 := n1_
         have HO216 := n2_
         have HO219 := n3_
         have HO223 := n4_
         have HO226 := n5_
         have BK203 := n6_
         have BK204 := n7_
         have HB := n8_
         clear n0_ n1_ n2_ n3_ n4_ n5_ n6_ n7_ n8_
         (try clear hb)
         (try clear hb2)
         (try clear hk)
         (try clear hi)
         (try clear ho0)
         obtain ⟨Ao52, co52, eo52⟩ := Kd.R_slice HO223.out
         (first | subst eo52 | (injection eo52 with f1_ f2_ f3_; have f4_ := f1_.symm; have f5_ := f3_.symm; clear f1_ f2_ f3_; subst f4_; subst f5_))
         obtain ⟨Ao53, co53, eo53⟩ := Kd.R_slice HO226.out
         (first | subst eo53 | (injection eo53 with f1_ f2_ f3_; have f4_ := f1_.symm; have f5_ := f3_.symm; clear f1_ f2_ f3_; subst f4_; subst f5_))
         refine hK.out _ _ ⟨(blk_cell BK203.out 0).trans rfl, (blk_cell BK203.out 1).trans rfl, (blk_cell BK204.out 0).trans rfl, (blk_cell BK204.out 1).trans rfl⟩ (fun hHeld => ?_)
         clear hK K
         refine norm_ (a' := ?_) ?_ ?_
         rotate_left
         ·show Act.put _ (some 49) _ = _
          simp only [Act.put, List.setIfInBounds_toArray, List.set_cons_zero, List.set_cons_succ, i64_w, i32_w]
          rfl
         refine one_ (i := 8) (N := some 50) #[true, true, true, true, true, true, true, true, true, false] rfl rfl (one_of HT_.out (by kernel_rfl)) (by decide) (fun K hK => ?_)
         refine goes_ Try.func13 (by kernel_rfl) rfl #[.slice Ao52 t221.length co52, .slice Ao53 t224.length co53] (by rfl) rfl rfl (by (try simp only [List.map_toArray, List.map_cons, List.map_nil]); first | done | rfl | (simp only [List.length_drop, List.length_take]; rfl)) ?_
         with_reducible refine (meanderref08_Same.calls k1 _ _ t221 _ _ t224 true _ ?side1 ?side2 ?side3 ?side4 A29.out).mono ?_
         (case side1 => repeat (first | exact (Kd.R_reads' HO223.out).2.2 | (with_reducible refine Kd.C_alloc ?_ _) | (with_reducible refine Kd.C_drewN ?_ _) | (with_reducible refine Kd.C_drew ?_)))
         (case side2 => exact (Kd.R_reads' HO223.out).2.1)
         (case side3 => repeat (first | exact (Kd.R_reads' HO226.out).2.2 | (with_reducible refine Kd.C_alloc ?_ _) | (with_reducible refine Kd.C_drewN ?_ _) | (with_reducible refine Kd.C_drew ?_)))
         (case side4 => exact (Kd.R_reads' HO226.out).2.1)
         rintro e w' ⟨rfl, ⟨nd, rfl⟩⟩
         refine ⟨_, rfl, ?_⟩
         refine hK.out _ _ ⟨(blk_cell BK203.out 0).trans rfl, (blk_cell BK203.out 1).trans rfl, (blk_cell BK204.out 0).trans rfl, (blk_cell BK204.out 1).trans rfl⟩ (fun hHeld => ?_)
         clear hK K
         refine norm_ (a' := ?_) ?_ ?_
         rotate_left
         ·show Act.put _ (some 50) _ = _
          simp only [Act.put, List.setIfInBounds_toArray, List.set_cons_zero, List.set_cons_succ, i64_w, i32_w]
          rfl
         refine pure_ (i := 9) (N := some 8) (v := ?_) (a' := ?_) #[true, true, true, true, true, true, true, true, true, true] rfl rfl (any_of HT_.out (by kernel_rfl)) (fun _ _ _ h => h) (Or.inl ⟨by rfl, ?_⟩) ?_ ?_
         rotate_left
         ·intro w'
          go_simp
          with_reducible rfl
         rotate_left
         ·simp only [Act.put, List.setIfInBounds_toArray, List.set_cons_zero, List.set_cons_succ, i64_w, i32_w]
          rfl
         refine done_ (done_of HT_.out (by kernel_rfl)) ?_
         try go_wp2
         (try (rw [drewN_self w51]; generalize hq_ : World.drewN w51 _ = w51; have n0_ : Aside0 (Kd.R k23 23 w51 w.heap.size (fun k_ => some k_ ≠ (.slice Ao48 t217.length co48 : Value).ownBlock ∧ some k_ ≠ (.slice Ao52 t221.length co52 : Value).ownBlock ∧ some k_ ≠ (.slice Ao53 t224.length co53 : Value).ownBlock ∧ k_ ≠ gb204) (.slice Ao47 t214.length co47) t214) := ⟨by rw [← hq_]; exact (by (with_reducible repeat (first | apply Kd.R_alloc | apply Kd.R_drewN | apply Kd.R_drew)); exact Kd.R_mono HO216.out (fun _ hk => (by (repeat' refine And.intro ?_ ?_) <;> (first | exact hk | exact hk.1 | exact hk.2 | exact hk.2.1 | exact hk.2.2 | exact hk.2.2.1 | exact hk.2.2.2 | exact hk.2.2.2.1 | exact hk.2.2.2.2 | exact hk.2.2.2.2.1 | exact hk.2.2.2.2.2 | exact hk.2.2.2.2.2.1 | exact hk.1.1 | exact hk.1.2 | exact hk.1.2.1 | exact hk.1.2.2 | exact hk.1.2.2.1 | exact hk.1.2.2.2 | exact hk.1.2.2.2.1 | exact hk.1.2.2.2.2 | exact hk.1.2.2.2.2.1 | exact hk.1.2.2.2.2.2 | exact hk.1.2.2.2.2.2.1 | exact hk.1.1.1 | exact hk.1.1.2 | exact hk.1.1.2.1 | exact hk.1.1.2.2 | exact hk.1.1.2.2.1 | exact hk.1.1.2.2.2 | exact hk.1.1.2.2.2.1 | exact hk.1.1.2.2.2.2 | exact hk.1.1.2.2.2.2.1 | exact hk.1.1.2.2.2.2.2 | exact hk.1.1.2.2.2.2.2.1 | exact hk.1.1.1.1 | exact hk.1.1.1.2 | exact hk.1.1.1.2.1 | exact hk.1.1.1.2.2 | exact hk.1.1.1.2.2.1 | exact hk.1.1.1.2.2.2 | exact hk.1.1.1.2.2.2.1 | exact hk.1.1.1.2.2.2.2 | exact hk.1.1.1.2.2.2.2.1 | exact hk.1.1.1.2.2.2.2.2 | exact hk.1.1.1.2.2.2.2.2.1 | exact hk.1.1.1.1.1 | exact hk.1.1.1.1.2 | exact hk.1.1.1.1.2.1 | exact hk.1.1.1.1.2.2 | exact hk.1.1.1.1.2.2.1 | exact hk.1.1.1.1.2.2.2 | exact hk.1.1.1.1.2.2.2.1 | exact hk.1.1.1.1.2.2.2.2 | exact hk.1.1.1.1.2.2.2.2.1 | exact hk.1.1.1.1.2.2.2.2.2 | exact hk.1.1.1.1.2.2.2.2.2.1 | exact hk.1.1.1.1.1.1 | exact hk.1.1.1.1.1.2 | exact hk.1.1.1.1.1.2.1 | exact hk.1.1.1.1.1.2.2 | exact hk.1.1.1.1.1.2.2.1 | exact hk.1.1.1.1.1.2.2.2 | exact hk.1.1.1.1.1.2.2.2.1 | exact hk.1.1.1.1.1.2.2.2.2 | exact hk.1.1.1.1.1.2.2.2.2.1 | exact hk.1.1.1.1.1.2.2.2.2.2 | exact hk.1.1.1.1.1.2.2.2.2.2.1 | exact hk.1.1.1.1.1.1.1 | exact hk.1.1.1.1.1.1.2 | exact hk.1.1.1.1.1.1.2.1 | exact hk.1.1.1.1.1.1.2.2 | exact hk.1.1.1.1.1.1.2.2.1 | exact hk.1.1.1.1.1.1.2.2.2 | exact hk.1.1.1.1.1.1.2.2.2.1 | exact hk.1.1.1.1.1.1.2.2.2.2 | exact hk.1.1.1.1.1.1.2.2.2.2.1 | exact hk.1.1.1.1.1.1.2.2.2.2.2 | exact hk.1.1.1.1.1.1.2.2.2.2.2.1 | exact hk.1.1.1.1.1.1.1.1 | exact hk.1.1.1.1.1.1.1.2 | exact hk.1.1.1.1.1.1.1.2.1 | exact hk.1.1.1.1.1.1.1.2.2 | exact hk.1.1.1.1.1.1.1.2.2.1 | exact hk.1.1.1.1.1.1.1.2.2.2 | exact hk.1.1.1.1.1.1.1.2.2.2.1 | exact hk.1.1.1.1.1.1.1.2.2.2.2 | exact hk.1.1.1.1.1.1.1.2.2.2.2.1 | exact hk.1.1.1.1.1.1.1.2.2.2.2.2 | exact hk.1.1.1.1.1.1.1.2.2.2.2.2.1))))⟩; have n1_ : Aside0 (Kd.R k23 23 w51 w.heap.size (fun k_ => some k_ ≠ (.slice Ao47 t214.length co47 : Value).ownBlock ∧ some k_ ≠ (.slice Ao52 t221.length co52 : Value).ownBlock ∧ some k_ ≠ (.slice Ao53 t224.length co53 : Value).ownBlock ∧ k_ ≠ gb204) (.slice Ao48 t217.length co48) t217) := ⟨by rw [← hq_]; exact (by (with_reducible repeat (first | apply Kd.R_alloc | apply Kd.R_drewN | apply Kd.R_drew)); exact Kd.R_mono HO219.out (fun _ hk => (by (repeat' refine And.intro ?_ ?_) <;> (first | exact hk | exact hk.1 | exact hk.2 | exact hk.2.1 | exact hk.2.2 | exact hk.2.2.1 | exact hk.2.2.2 | exact hk.2.2.2.1 | exact hk.2.2.2.2 | exact hk.2.2.2.2.1 | exact hk.2.2.2.2.2 | exact hk.2.2.2.2.2.1 | exact hk.1.1 | exact hk.1.2 | exact hk.1.2.1 | exact hk.1.2.2 | exact hk.1.2.2.1 | exact hk.1.2.2.2 | exact hk.1.2.2.2.1 | exact hk.1.2.2.2.2 | exact hk.1.2.2.2.2.1 | exact hk.1.2.2.2.2.2 | exact hk.1.2.2.2.2.2.1 | exact hk.1.1.1 | exact hk.1.1.2 | exact hk.1.1.2.1 | exact hk.1.1.2.2 | exact hk.1.1.2.2.1 | exact hk.1.1.2.2.2 | exact hk.1.1.2.2.2.1 | exact hk.1.1.2.2.2.2 | exact hk.1.1.2.2.2.2.1 | exact hk.1.1.2.2.2.2.2 | exact hk.1.1.2.2.2.2.2.1 | exact hk.1.1.1.1 | exact hk.1.1.1.2 | exact hk.1.1.1.2.1 | exact hk.1.1.1.2.2 | exact hk.1.1.1.2.2.1 | exact hk.1.1.1.2.2.2 | exact hk.1.1.1.2.2.2.1 | exact hk.1.1.1.2.2.2.2 | exact hk.1.1.1.2.2.2.2.1 | exact hk.1.1.1.2.2.2.2.2 | exact hk.1.1.1.2.2.2.2.2.1 | exact hk.1.1.1.1.1 | exact hk.1.1.1.1.2 | exact hk.1.1.1.1.2.1 | exact hk.1.1.1.1.2.2 | exact hk.1.1.1.1.2.2.1 | exact hk.1.1.1.1.2.2.2 | exact hk.1.1.1.1.2.2.2.1 | exact hk.1.1.1.1.2.2.2.2 | exact hk.1.1.1.1.2.2.2.2.1 | exact hk.1.1.1.1.2.2.2.2.2 | exact hk.1.1.1.1.2.2.2.2.2.1 | exact hk.1.1.1.1.1.1 | exact hk.1.1.1.1.1.2 | exact hk.1.1.1.1.1.2.1 | exact hk.1.1.1.1.1.2.2 | exact hk.1.1.1.1.1.2.2.1 | exact hk.1.1.1.1.1.2.2.2 | exact hk.1.1.1.1.1.2.2.2.1 | exact hk.1.1.1.1.1.2.2.2.2 | exact hk.1.1.1.1.1.2.2.2.2.1 | exact hk.1.1.1.1.1.2.2.2.2.2 | exact hk.1.1.1.1.1.2.2.2.2.2.1 | exact hk.1.1.1.1.1.1.1 | exact hk.1.1.1.1.1.1.2 | exact hk.1.1.1.1.1.1.2.1 | exact hk.1.1.1.1.1.1.2.2 | exact hk.1.1.1.1.1.1.2.2.1 | exact hk.1.1.1.1.1.1.2.2.2 | exact hk.1.1.1.1.1.1.2.2.2.1 | exact hk.1.1.1.1.1.1.2.2.2.2 | exact hk.1.1.1.1.1.1.2.2.2.2.1 | exact hk.1.1.1.1.1.1.2.2.2.2.2 | exact hk.1.1.1.1.1.1.2.2.2.2.2.1 | exact hk.1.1.1.1.1.1.1.1 | exact hk.1.1.1.1.1.1.1.2 | exact hk.1.1.1.1.1.1.1.2.1 | exact hk.1.1.1.1.1.1.1.2.2 | exact hk.1.1.1.1.1.1.1.2.2.1 | exact hk.1.1.1.1.1.1.1.2.2.2 | exact hk.1.1.1.1.1.1.1.2.2.2.1 | exact hk.1.1.1.1.1.1.1.2.2.2.2 | exact hk.1.1.1.1.1.1.1.2.2.2.2.1 | exact hk.1.1.1.1.1.1.1.2.2.2.2.2 | exact hk.1.1.1.1.1.1.1.2.2.2.2.2.1))))⟩; have n2_ : Aside0 (Kd.R k23 23 w51 w.heap.size (fun k_ => some k_ ≠ (.slice Ao47 t214.length co47 : Value).ownBlock ∧ some k_ ≠ (.slice Ao48 t217.length co48 : Value).ownBlock ∧ some k_ ≠ (.slice Ao53 t224.length co53 : Value).ownBlock ∧ k_ ≠ gb204) (.slice Ao52 t221.length co52) t221) := ⟨by rw [← hq_]; exact (by (with_reducible repeat (first | apply Kd.R_alloc | apply Kd.R_drewN | apply Kd.R_drew)); exact Kd.R_mono HO223.out (fun _ hk => (by (repeat' refine And.intro ?_ ?_) <;> (first | exact hk | exact hk.1 | exact hk.2 | exact hk.2.1 | exact hk.2.2 | exact hk.2.2.1 | exact hk.2.2.2 | exact hk.2.2.2.1 | exact hk.2.2.2.2 | exact hk.2.2.2.2.1 | exact hk.2.2.2.2.2 | exact hk.2.2.2.2.2.1 | exact hk.1.1 | exact hk.1.2 | exact hk.1.2.1 | exact hk.1.2.2 | exact hk.1.2.2.1 | exact hk.1.2.2.2 | exact hk.1.2.2.2.1 | exact hk.1.2.2.2.2 | exact hk.1.2.2.2.2.1 | exact hk.1.2.2.2.2.2 | exact hk.1.2.2.2.2.2.1 | exact hk.1.1.1 | exact hk.1.1.2 | exact hk.1.1.2.1 | exact hk.1.1.2.2 | exact hk.1.1.2.2.1 | exact hk.1.1.2.2.2 | exact hk.1.1.2.2.2.1 | exact hk.1.1.2.2.2.2 | exact hk.1.1.2.2.2.2.1 | exact hk.1.1.2.2.2.2.2 | exact hk.1.1.2.2.2.2.2.1 | exact hk.1.1.1.1 | exact hk.1.1.1.2 | exact hk.1.1.1.2.1 | exact hk.1.1.1.2.2 | exact hk.1.1.1.2.2.1 | exact hk.1.1.1.2.2.2 | exact hk.1.1.1.2.2.2.1 | exact hk.1.1.1.2.2.2.2 | exact hk.1.1.1.2.2.2.2.1 | exact hk.1.1.1.2.2.2.2.2 | exact hk.1.1.1.2.2.2.2.2.1 | exact hk.1.1.1.1.1 | exact hk.1.1.1.1.2 | exact hk.1.1.1.1.2.1 | exact hk.1.1.1.1.2.2 | exact hk.1.1.1.1.2.2.1 | exact hk.1.1.1.1.2.2.2 | exact hk.1.1.1.1.2.2.2.1 | exact hk.1.1.1.1.2.2.2.2 | exact hk.1.1.1.1.2.2.2.2.1 | exact hk.1.1.1.1.2.2.2.2.2 | exact hk.1.1.1.1.2.2.2.2.2.1 | exact hk.1.1.1.1.1.1 | exact hk.1.1.1.1.1.2 | exact hk.1.1.1.1.1.2.1 | exact hk.1.1.1.1.1.2.2 | exact hk.1.1.1.1.1.2.2.1 | exact hk.1.1.1.1.1.2.2.2 | exact hk.1.1.1.1.1.2.2.2.1 | exact hk.1.1.1.1.1.2.2.2.2 | exact hk.1.1.1.1.1.2.2.2.2.1 | exact hk.1.1.1.1.1.2.2.2.2.2 | exact hk.1.1.1.1.1.2.2.2.2.2.1 | exact hk.1.1.1.1.1.1.1 | exact hk.1.1.1.1.1.1.2 | exact hk.1.1.1.1.1.1.2.1 | exact hk.1.1.1.1.1.1.2.2 | exact hk.1.1.1.1.1.1.2.2.1 | exact hk.1.1.1.1.1.1.2.2.2 | exact hk.1.1.1.1.1.1.2.2.2.1 | exact hk.1.1.1.1.1.1.2.2.2.2 | exact hk.1.1.1.1.1.1.2.2.2.2.1 | exact hk.1.1.1.1.1.1.2.2.2.2.2 | exact hk.1.1.1.1.1.1.2.2.2.2.2.1 | exact hk.1.1.1.1.1.1.1.1 | exact hk.1.1.1.1.1.1.1.2 | exact hk.1.1.1.1.1.1.1.2.1 | exact hk.1.1.1.1.1.1.1.2.2 | exact hk.1.1.1.1.1.1.1.2.2.1 | exact hk.1.1.1.1.1.1.1.2.2.2 | exact hk.1.1.1.1.1.1.1.2.2.2.1 | exact hk.1.1.1.1.1.1.1.2.2.2.2 | exact hk.1.1.1.1.1.1.1.2.2.2.2.1 | exact hk.1.1.1.1.1.1.1.2.2.2.2.2 | exact hk.1.1.1.1.1.1.1.2.2.2.2.2.1))))⟩; have n3_ : Aside0 (Kd.R k23 23 w51 w.heap.size (fun k_ => some k_ ≠ (.slice Ao47 t214.length co47 : Value).ownBlock ∧ some k_ ≠ (.slice Ao48 t217.length co48 : Value).ownBlock ∧ some k_ ≠ (.slice Ao52 t221.length co52 : Value).ownBlock ∧ k_ ≠ gb204) (.slice Ao53 t224.length co53) t224) := ⟨by rw [← hq_]; exact (by (with_reducible repeat (first | apply Kd.R_alloc | apply Kd.R_drewN | apply Kd.R_drew)); exact Kd.R_mono HO226.out (fun _ hk => (by (repeat' refine And.intro ?_ ?_) <;> (first | exact hk | exact hk.1 | exact hk.2 | exact hk.2.1 | exact hk.2.2 | exact hk.2.2.1 | exact hk.2.2.2 | exact hk.2.2.2.1 | exact hk.2.2.2.2 | exact hk.2.2.2.2.1 | exact hk.2.2.2.2.2 | exact hk.2.2.2.2.2.1 | exact hk.1.1 | exact hk.1.2 | exact hk.1.2.1 | exact hk.1.2.2 | exact hk.1.2.2.1 | exact hk.1.2.2.2 | exact hk.1.2.2.2.1 | exact hk.1.2.2.2.2 | exact hk.1.2.2.2.2.1 | exact hk.1.2.2.2.2.2 | exact hk.1.2.2.2.2.2.1 | exact hk.1.1.1 | exact hk.1.1.2 | exact hk.1.1.2.1 | exact hk.1.1.2.2 | exact hk.1.1.2.2.1 | exact hk.1.1.2.2.2 | exact hk.1.1.2.2.2.1 | exact hk.1.1.2.2.2.2 | exact hk.1.1.2.2.2.2.1 | exact hk.1.1.2.2.2.2.2 | exact hk.1.1.2.2.2.2.2.1 | exact hk.1.1.1.1 | exact hk.1.1.1.2 | exact hk.1.1.1.2.1 | exact hk.1.1.1.2.2 | exact hk.1.1.1.2.2.1 | exact hk.1.1.1.2.2.2 | exact hk.1.1.1.2.2.2.1 | exact hk.1.1.1.2.2.2.2 | exact hk.1.1.1.2.2.2.2.1 | exact hk.1.1.1.2.2.2.2.2 | exact hk.1.1.1.2.2.2.2.2.1 | exact hk.1.1.1.1.1 | exact hk.1.1.1.1.2 | exact hk.1.1.1.1.2.1 | exact hk.1.1.1.1.2.2 | exact hk.1.1.1.1.2.2.1 | exact hk.1.1.1.1.2.2.2 | exact hk.1.1.1.1.2.2.2.1 | exact hk.1.1.1.1.2.2.2.2 | exact hk.1.1.1.1.2.2.2.2.1 | exact hk.1.1.1.1.2.2.2.2.2 | exact hk.1.1.1.1.2.2.2.2.2.1 | exact hk.1.1.1.1.1.1 | exact hk.1.1.1.1.1.2 | exact hk.1.1.1.1.1.2.1 | exact hk.1.1.1.1.1.2.2 | exact hk.1.1.1.1.1.2.2.1 | exact hk.1.1.1.1.1.2.2.2 | exact hk.1.1.1.1.1.2.2.2.1 | exact hk.1.1.1.1.1.2.2.2.2 | exact hk.1.1.1.1.1.2.2.2.2.1 | exact hk.1.1.1.1.1.2.2.2.2.2 | exact hk.1.1.1.1.1.2.2.2.2.2.1 | exact hk.1.1.1.1.1.1.1 | exact hk.1.1.1.1.1.1.2 | exact hk.1.1.1.1.1.1.2.1 | exact hk.1.1.1.1.1.1.2.2 | exact hk.1.1.1.1.1.1.2.2.1 | exact hk.1.1.1.1.1.1.2.2.2 | exact hk.1.1.1.1.1.1.2.2.2.1 | exact hk.1.1.1.1.1.1.2.2.2.2 | exact hk.1.1.1.1.1.1.2.2.2.2.1 | exact hk.1.1.1.1.1.1.2.2.2.2.2 | exact hk.1.1.1.1.1.1.2.2.2.2.2.1 | exact hk.1.1.1.1.1.1.1.1 | exact hk.1.1.1.1.1.1.1.2 | exact hk.1.1.1.1.1.1.1.2.1 | exact hk.1.1.1.1.1.1.1.2.2 | exact hk.1.1.1.1.1.1.1.2.2.1 | exact hk.1.1.1.1.1.1.1.2.2.2 | exact hk.1.1.1.1.1.1.1.2.2.2.1 | exact hk.1.1.1.1.1.1.1.2.2.2.2 | exact hk.1.1.1.1.1.1.1.2.2.2.2.1 | exact hk.1.1.1.1.1.1.1.2.2.2.2.2 | exact hk.1.1.1.1.1.1.1.2.2.2.2.2.1))))⟩; have n4_ : Aside0 (Kd.V k38 38 w51 w.heap.size (fun k_ => some k_ ≠ (.slice Ao47 t214.length co47 : Value).ownBlock ∧ some k_ ≠ (.slice Ao48 t217.length co48 : Value).ownBlock ∧ some k_ ≠ (.slice Ao52 t221.length co52 : Value).ownBlock ∧ some k_ ≠ (.slice Ao53 t224.length co53 : Value).ownBlock ∧ k_ ≠ gb203 ∧ k_ ≠ gb204) (.slice Ao11 t206.length co11) t206) := ⟨by rw [← hq_]; exact (by (with_reducible repeat (first | apply Kd.V_alloc | apply Kd.V_drewN | apply Kd.V_drew)); exact Kd.V_mono HO_204000.out (fun _ hk => (by (repeat' refine And.intro ?_ ?_) <;> (first | exact hk | exact hk.1 | exact hk.2 | exact hk.2.1 | exact hk.2.2 | exact hk.2.2.1 | exact hk.2.2.2 | exact hk.2.2.2.1 | exact hk.2.2.2.2 | exact hk.2.2.2.2.1 | exact hk.2.2.2.2.2 | exact hk.2.2.2.2.2.1 | exact hk.1.1 | exact hk.1.2 | exact hk.1.2.1 | exact hk.1.2.2 | exact hk.1.2.2.1 | exact hk.1.2.2.2 | exact hk.1.2.2.2.1 | exact hk.1.2.2.2.2 | exact hk.1.2.2.2.2.1 | exact hk.1.2.2.2.2.2 | exact hk.1.2.2.2.2.2.1 | exact hk.1.1.1 | exact hk.1.1.2 | exact hk.1.1.2.1 | exact hk.1.1.2.2 | exact hk.1.1.2.2.1 | exact hk.1.1.2.2.2 | exact hk.1.1.2.2.2.1 | exact hk.1.1.2.2.2.2 | exact hk.1.1.2.2.2.2.1 | exact hk.1.1.2.2.2.2.2 | exact hk.1.1.2.2.2.2.2.1 | exact hk.1.1.1.1 | exact hk.1.1.1.2 | exact hk.1.1.1.2.1 | exact hk.1.1.1.2.2 | exact hk.1.1.1.2.2.1 | exact hk.1.1.1.2.2.2 | exact hk.1.1.1.2.2.2.1 | exact hk.1.1.1.2.2.2.2 | exact hk.1.1.1.2.2.2.2.1 | exact hk.1.1.1.2.2.2.2.2 | exact hk.1.1.1.2.2.2.2.2.1 | exact hk.1.1.1.1.1 | exact hk.1.1.1.1.2 | exact hk.1.1.1.1.2.1 | exact hk.1.1.1.1.2.2 | exact hk.1.1.1.1.2.2.1 | exact hk.1.1.1.1.2.2.2 | exact hk.1.1.1.1.2.2.2.1 | exact hk.1.1.1.1.2.2.2.2 | exact hk.1.1.1.1.2.2.2.2.1 | exact hk.1.1.1.1.2.2.2.2.2 | exact hk.1.1.1.1.2.2.2.2.2.1 | exact hk.1.1.1.1.1.1 | exact hk.1.1.1.1.1.2 | exact hk.1.1.1.1.1.2.1 | exact hk.1.1.1.1.1.2.2 | exact hk.1.1.1.1.1.2.2.1 | exact hk.1.1.1.1.1.2.2.2 | exact hk.1.1.1.1.1.2.2.2.1 | exact hk.1.1.1.1.1.2.2.2.2 | exact hk.1.1.1.1.1.2.2.2.2.1 | exact hk.1.1.1.1.1.2.2.2.2.2 | exact hk.1.1.1.1.1.2.2.2.2.2.1 | exact hk.1.1.1.1.1.1.1 | exact hk.1.1.1.1.1.1.2 | exact hk.1.1.1.1.1.1.2.1 | exact hk.1.1.1.1.1.1.2.2 | exact hk.1.1.1.1.1.1.2.2.1 | exact hk.1.1.1.1.1.1.2.2.2 | exact hk.1.1.1.1.1.1.2.2.2.1 | exact hk.1.1.1.1.1.1.2.2.2.2 | exact hk.1.1.1.1.1.1.2.2.2.2.1 | exact hk.1.1.1.1.1.1.2.2.2.2.2 | exact hk.1.1.1.1.1.1.2.2.2.2.2.1 | exact hk.1.1.1.1.1.1.1.1 | exact hk.1.1.1.1.1.1.1.2 | exact hk.1.1.1.1.1.1.1.2.1 | exact hk.1.1.1.1.1.1.1.2.2 | exact hk.1.1.1.1.1.1.1.2.2.1 | exact hk.1.1.1.1.1.1.1.2.2.2 | exact hk.1.1.1.1.1.1.1.2.2.2.1 | exact hk.1.1.1.1.1.1.1.2.2.2.2 | exact hk.1.1.1.1.1.1.1.2.2.2.2.1 | exact hk.1.1.1.1.1.1.1.2.2.2.2.2 | exact hk.1.1.1.1.1.1.1.2.2.2.2.2.1))))⟩; have n5_ : Aside0 (Kd.V k35 35 w51 w.heap.size (fun k_ => some k_ ≠ (.slice Ao47 t214.length co47 : Value).ownBlock ∧ some k_ ≠ (.slice Ao48 t217.length co48 : Value).ownBlock ∧ some k_ ≠ (.slice Ao52 t221.length co52 : Value).ownBlock ∧ some k_ ≠ (.slice Ao53 t224.length co53 : Value).ownBlock ∧ k_ ≠ gb203 ∧ k_ ≠ gb204) (.slice Ao13 t209.length co13) t209) := ⟨by rw [← hq_]; exact (by (with_reducible repeat (first | apply Kd.V_alloc | apply Kd.V_drewN | apply Kd.V_drew)); exact Kd.V_mono HO_204001.out (fun _ hk => (by (repeat' refine And.intro ?_ ?_) <;> (first | exact hk | exact hk.1 | exact hk.2 | exact hk.2.1 | exact hk.2.2 | exact hk.2.2.1 | exact hk.2.2.2 | exact hk.2.2.2.1 | exact hk.2.2.2.2 | exact hk.2.2.2.2.1 | exact hk.2.2.2.2.2 | exact hk.2.2.2.2.2.1 | exact hk.1.1 | exact hk.1.2 | exact hk.1.2.1 | exact hk.1.2.2 | exact hk.1.2.2.1 | exact hk.1.2.2.2 | exact hk.1.2.2.2.1 | exact hk.1.2.2.2.2 | exact hk.1.2.2.2.2.1 | exact hk.1.2.2.2.2.2 | exact hk.1.2.2.2.2.2.1 | exact hk.1.1.1 | exact hk.1.1.2 | exact hk.1.1.2.1 | exact hk.1.1.2.2 | exact hk.1.1.2.2.1 | exact hk.1.1.2.2.2 | exact hk.1.1.2.2.2.1 | exact hk.1.1.2.2.2.2 | exact hk.1.1.2.2.2.2.1 | exact hk.1.1.2.2.2.2.2 | exact hk.1.1.2.2.2.2.2.1 | exact hk.1.1.1.1 | exact hk.1.1.1.2 | exact hk.1.1.1.2.1 | exact hk.1.1.1.2.2 | exact hk.1.1.1.2.2.1 | exact hk.1.1.1.2.2.2 | exact hk.1.1.1.2.2.2.1 | exact hk.1.1.1.2.2.2.2 | exact hk.1.1.1.2.2.2.2.1 | exact hk.1.1.1.2.2.2.2.2 | exact hk.1.1.1.2.2.2.2.2.1 | exact hk.1.1.1.1.1 | exact hk.1.1.1.1.2 | exact hk.1.1.1.1.2.1 | exact hk.1.1.1.1.2.2 | exact hk.1.1.1.1.2.2.1 | exact hk.1.1.1.1.2.2.2 | exact hk.1.1.1.1.2.2.2.1 | exact hk.1.1.1.1.2.2.2.2 | exact hk.1.1.1.1.2.2.2.2.1 | exact hk.1.1.1.1.2.2.2.2.2 | exact hk.1.1.1.1.2.2.2.2.2.1 | exact hk.1.1.1.1.1.1 | exact hk.1.1.1.1.1.2 | exact hk.1.1.1.1.1.2.1 | exact hk.1.1.1.1.1.2.2 | exact hk.1.1.1.1.1.2.2.1 | exact hk.1.1.1.1.1.2.2.2 | exact hk.1.1.1.1.1.2.2.2.1 | exact hk.1.1.1.1.1.2.2.2.2 | exact hk.1.1.1.1.1.2.2.2.2.1 | exact hk.1.1.1.1.1.2.2.2.2.2 | exact hk.1.1.1.1.1.2.2.2.2.2.1 | exact hk.1.1.1.1.1.1.1 | exact hk.1.1.1.1.1.1.2 | exact hk.1.1.1.1.1.1.2.1 | exact hk.1.1.1.1.1.1.2.2 | exact hk.1.1.1.1.1.1.2.2.1 | exact hk.1.1.1.1.1.1.2.2.2 | exact hk.1.1.1.1.1.1.2.2.2.1 | exact hk.1.1.1.1.1.1.2.2.2.2 | exact hk.1.1.1.1.1.1.2.2.2.2.1 | exact hk.1.1.1.1.1.1.2.2.2.2.2 | exact hk.1.1.1.1.1.1.2.2.2.2.2.1 | exact hk.1.1.1.1.1.1.1.1 | exact hk.1.1.1.1.1.1.1.2 | exact hk.1.1.1.1.1.1.1.2.1 | exact hk.1.1.1.1.1.1.1.2.2 | exact hk.1.1.1.1.1.1.1.2.2.1 | exact hk.1.1.1.1.1.1.1.2.2.2 | exact hk.1.1.1.1.1.1.1.2.2.2.1 | exact hk.1.1.1.1.1.1.1.2.2.2.2 | exact hk.1.1.1.1.1.1.1.2.2.2.2.1 | exact hk.1.1.1.1.1.1.1.2.2.2.2.2 | exact hk.1.1.1.1.1.1.1.2.2.2.2.2.1))))⟩; have n6_ : Aside0 (w51.heap[gb203]? = some (.cells #[.slice Ao11 t206.length co11, .slice Ao13 t209.length co13] 30 (0, 0))) := ⟨by rw [← hq_]; exact (by (with_reducible repeat (first | refine blk_drewN ?_ _ | refine blk_drew ?_ | refine blk_alloc ?_ _)); exact BK203.out)⟩; have n7_ : Aside0 (w51.heap[gb204]? = some (.cells #[.int .i64 a1_0, .int .i64 a1_1] 23 (0, 0))) := ⟨by rw [← hq_]; exact (by (with_reducible repeat (first | refine blk_drewN ?_ _ | refine blk_drew ?_ | refine blk_alloc ?_ _)); exact BK204.out)⟩; have n8_ : Aside0 (Below w.heap.size w w51) := ⟨by rw [← hq_]; exact (by repeat (first | (with_reducible first | exact HB.out | apply below_alloc | apply pw_below_drewN | apply below_drew1 | refine below_set ?_ GE203.out | refine below_set ?_ GE204.out) | exact HB.out))⟩; clear HO216 HO219 HO223 HO226 HO_204000 HO_204001 BK203 BK204 HB hq_; have HO216 := n0_; have HO219 := n1_; have HO223 := n2_; have HO226 := n3_; have HO_204000 := n4_; have HO_204001 := n5_; have BK203 := n6_; have BK204 := n7_; have HB := n8_; clear n0_ n1_ n2_ n3_ n4_ n5_ n6_ n7_ n8_))
         have n0_ := Aside0.mk (Kd.V_drew HO_204000.out)
         have n1_ := Aside0.mk (Kd.V_drew HO_204001.out)
         have n2_ := Aside0.mk (Kd.R_drew HO216.out)
         have n3_ := Aside0.mk (Kd.R_drew HO219.out)
         have n4_ := Aside0.mk (Kd.R_drew HO223.out)
         have n5_ := Aside0.mk (Kd.R_drew HO226.out)
         have n6_ := Aside0.mk (blk_drew BK203.out)
         have n7_ := Aside0.mk (blk_drew BK204.out)
         have n8_ := Aside0.mk (below_drew1 HB.out)
         clear HO_204000
         clear HO_204001
         clear HO216
         clear HO219
         clear HO223
         clear HO226
         clear BK203
         clear BK204
         clear HB
         have HO_204000 := n0_
         have HO_204001 := n1_
         have HO216 := n2_
         have HO219 := n3_
         have HO223 := n4_
         have HO226 := n5_
         have BK203 := n6_
         have BK204 := n7_
         have HB := n8_
         clear n0_ n1_ n2_ n3_ n4_ n5_ n6_ n7_ n8_
         refine start_ (n := 8) (S := fun w' => w'.cell? ⟨gb203, 0, none⟩ = some (.slice Ao11 t206.length co11) ∧ w'.cell? ⟨gb203, 1, none⟩ = some (.slice Ao13 t209.length co13) ∧ w'.cell? ⟨gb204, 0, none⟩ = some (.int .i64 a1_0) ∧ w'.cell? ⟨gb204, 1, none⟩ = some (.int .i64 a1_1)) (ds := []) #[false, false, false, false, false, false, false, false] (by kernel_rfl) rfl rfl ⟨(blk_cell BK203.out 0).trans rfl, (blk_cell BK203.out 1).trans rfl, (blk_cell BK204.out 0).trans rfl, (blk_cell BK204.out 1).trans rfl⟩ (fun hHeld => ?_); refine with_tabW meanderlaw08_GraphPlaces.tab10 meanderlaw08_GraphPlaces.bits10 (fun HT_ HW_ => ?_)
         generalize w51.drew = w54 at HO_204000 HO_204001 HO216 HO219 HO223 HO226 BK203 BK204 HB hHeld ⊢
         refine take_ (i := 0) (N := some 51) (v := ?_) (a' := ?_) #[true, false, false, false, false, false, false, false] rfl rfl (take_ofW HT_.out HW_.out (by kernel_rfl)) (fun _ _ _ h => h) (Or.inl ⟨by rfl, ?_⟩) hHeld ?_ ?_
         rotate_left
         ·rintro w' ⟨s0, s1, s2, s3⟩
          go_simp
          with_reducible rfl
         rotate_left
         ·simp only [Act.put, List.setIfInBounds_toArray, List.set_cons_zero, List.set_cons_succ, i64_w, i32_w]
          rfl
         refine take_ (i := 1) (N := some 52) (v := ?_) (a' := ?_) #[true, true, false, false, false, false, false, false] rfl rfl (take_ofW HT_.out HW_.out (by kernel_rfl)) (fun _ _ _ h => h) (Or.inl ⟨by rfl, ?_⟩) hHeld ?_ ?_
         rotate_left
         ·rintro w' ⟨s0, s1, s2, s3⟩
          go_simp
          with_reducible rfl
         rotate_left
         ·simp only [Act.put, List.setIfInBounds_toArray, List.set_cons_zero, List.set_cons_succ, i64_w, i32_w]
          rfl
         refine take_ (i := 3) (N := some 54) (v := ?_) (a' := ?_) #[true, true, false, true, false, false, false, false] rfl rfl (take_ofW HT_.out HW_.out (by kernel_rfl)) (fun _ _ _ h => h) (Or.inl ⟨by rfl, ?_⟩) hHeld ?_ ?_
         rotate_left
         ·rintro w' ⟨s0, s1, s2, s3⟩
          go_simp
          with_reducible rfl
         rotate_left
         ·simp only [Act.put, List.setIfInBounds_toArray, List.set_cons_zero, List.set_cons_succ, i64_w, i32_w]
          rfl
         refine take_ (i := 4) (N := some 55) (v := ?_) (a' := ?_) #[true, true, false, true, true, false, false, false] rfl rfl (take_ofW HT_.out HW_.out (by kernel_rfl)) (fun _ _ _ h => h) (Or.inl ⟨by rfl, ?_⟩) hHeld ?_ ?_
         rotate_left
         ·rintro w' ⟨s0, s1, s2, s3⟩
          go_simp
          with_reducible rfl
         rotate_left
         ·simp only [Act.put, List.setIfInBounds_toArray, List.set_cons_zero, List.set_cons_succ, i64_w, i32_w]
          rfl
         refine one_ (i := 2) (N := some 53) #[true, true, true, true, true, false, false, false] rfl rfl (one_of HT_.out (by kernel_rfl)) (by decide) (fun K hK => ?_)
         refine goes_ Try.func18 (by kernel_rfl) rfl #[.agg #[.slice Ao11 t206.length co11, .slice Ao13 t209.length co13], .agg #[.int .i64 a1_0, .int .i64 a1_1]] (by rfl) rfl rfl (by (try simp only [List.map_toArray, List.map_cons, List.map_nil]); first | done | rfl | (simp only [List.length_drop, List.length_take]; rfl)) ?_
         with_reducible refine (graph_Prev.calls k1 _ _ t206 _ _ t209 a1_0 a1_1 t228 _ ?side1 ?side2 ?side3 ?side4 A30.out).mono ?_
         (case side1 => repeat (first | exact (Kd.V_reads' HO_204000.out).2.2 | (with_reducible refine Kd.C_alloc ?_ _) | (with_reducible refine Kd.C_drewN ?_ _) | (with_reducible refine Kd.C_drew ?_)))
         (case side2 => exact (Kd.V_reads' HO_204000.out).2.1)
         (case side3 => repeat (first | exact (Kd.V_reads' HO_204001.out).2.2 | (with_reducible refine Kd.C_alloc ?_ _) | (with_reducible refine Kd.C_drewN ?_ _) | (with_reducible refine Kd.C_drew ?_)))
         (case side4 => exact (Kd.V_reads' HO_204001.out).2.1)
         rintro e w55 ⟨v229, rfl, ho0, hb⟩
         refine ⟨_, rfl, ?_⟩
         have n0_ := Aside0.mk (Kd.V_elder' (by (with_reducible repeat (first | apply Kd.V_alloc | apply Kd.V_drewN | apply Kd.V_drew)); exact HO_204000.out) (Kd.R_base ho0) hb)
         have n1_ := Aside0.mk (Kd.V_elder' (by (with_reducible repeat (first | apply Kd.V_alloc | apply Kd.V_drewN | apply Kd.V_drew)); exact HO_204001.out) (Kd.R_base ho0) hb)
         have n2_ := Aside0.mk (Kd.R_below (by (with_reducible repeat (first | apply Kd.R_alloc | apply Kd.R_drewN | apply Kd.R_drew)); exact HO216.out) hb)
         have n3_ := Aside0.mk (Kd.R_below (by (with_reducible repeat (first | apply Kd.R_alloc | apply Kd.R_drewN | apply Kd.R_drew)); exact HO219.out) hb)
         have n4_ := Aside0.mk (Kd.R_below (by (with_reducible repeat (first | apply Kd.R_alloc | apply Kd.R_drewN | apply Kd.R_drew)); exact HO223.out) hb)
         have n5_ := Aside0.mk (Kd.R_below (by (with_reducible repeat (first | apply Kd.R_alloc | apply Kd.R_drewN | apply Kd.R_drew)); exact HO226.out) hb)
         have n6_ := Aside0.mk (Kd.R_lower ho0 (below_size (by repeat (first | (with_reducible first | exact HB.out | apply below_alloc | apply pw_below_drewN | apply below_drew1 | refine below_set ?_ GE203.out | refine below_set ?_ GE204.out) | exact HB.out))))
         have n7_ := Aside0.mk (blk_below (g := gb203) (o := .cells #[.slice Ao11 t206.length co11, .slice Ao13 t209.length co13] 30 (0, 0)) (by (with_reducible repeat (first | refine blk_drewN ?_ _ | refine blk_drew ?_ | refine blk_alloc ?_ _)); exact BK203.out) hb)
         have n8_ := Aside0.mk (blk_below (g := gb204) (o := .cells #[.int .i64 a1_0, .int .i64 a1_1] 23 (0, 0)) (by (with_reducible repeat (first | refine blk_drewN ?_ _ | refine blk_drew ?_ | refine blk_alloc ?_ _)); exact BK204.out) hb)
         have n9_ := Aside0.mk (below_step (by repeat (first | (with_reducible first | exact HB.out | apply below_alloc | apply pw_below_drewN | apply below_drew1 | refine below_set ?_ GE203.out | refine below_set ?_ GE204.out) | exact HB.out)) hb)
         clear HO_204000
         clear HO_204001
         clear HO216
         clear HO219
         clear HO223
         clear HO226
         clear BK203
         clear BK204
         clear HB
         have HO_204000 := n0_
         have HO_204001 := n1_
         have HO216 := n2_
         have HO219 := n3_
         have HO223 := n4_
         have HO226 := n5_
         have HO230 := n6_
         have BK203 := n7_
         have BK204 := n8_
         have HB := n9_
         clear n0_ n1_ n2_ n3_ n4_ n5_ n6_ n7_ n8_ n9_
         (try clear hb)
         (try clear hb2)
         (try clear hk)
         (try clear hi)
         (try clear ho0)
         refine hK.out _ _ ⟨(blk_cell BK203.out 0).trans rfl, (blk_cell BK203.out 1).trans rfl, (blk_cell BK204.out 0).trans rfl, (blk_cell BK204.out 1).trans rfl⟩ (fun hHeld => ?_)
         clear hK K
         refine norm_ (a' := ?_) ?_ ?_
         rotate_left
         ·show Act.put _ (some 53) _ = _
          simp only [Act.put, List.setIfInBounds_toArray, List.set_cons_zero, List.set_cons_succ, i64_w, i32_w]
          rfl
         refine one_ (i := 5) (N := some 56) #[true, true, true, true, true, true, false, false] rfl rfl (one_of HT_.out (by kernel_rfl)) (by decide) (fun K hK => ?_)
         refine goes_ Try.func19 (by kernel_rfl) rfl #[.agg #[.slice Ao11 t206.length co11, .slice Ao13 t209.length co13], .agg #[.int .i64 a1_0, .int .i64 a1_1]] (by rfl) rfl rfl (by (try simp only [List.map_toArray, List.map_cons, List.map_nil]); first | done | rfl | (simp only [List.length_drop, List.length_take]; rfl)) ?_
         with_reducible refine (meanderref08_Prev.calls k1 _ _ t206 _ _ t209 a1_0 a1_1 t231 _ ?side1 ?side2 ?side3 ?side4 A31.out).mono ?_
         (case side1 => repeat (first | exact (Kd.V_reads' HO_204000.out).2.2 | (with_reducible refine Kd.C_alloc ?_ _) | (with_reducible refine Kd.C_drewN ?_ _) | (with_reducible refine Kd.C_drew ?_)))
         (case side2 => exact (Kd.V_reads' HO_204000.out).2.1)
         (case side3 => repeat (first | exact (Kd.V_reads' HO_204001.out).2.2 | (with_reducible refine Kd.C_alloc ?_ _) | (with_reducible refine Kd.C_drewN ?_ _) | (with_reducible refine Kd.C_drew ?_)))
         (case side4 => exact (Kd.V_reads' HO_204001.out).2.1)
         rintro e w56 ⟨v232, rfl, ho0, hb⟩
         refine ⟨_, rfl, ?_⟩
         have n0_ := Aside0.mk (Kd.V_elder' (by (with_reducible repeat (first | apply Kd.V_alloc | apply Kd.V_drewN | apply Kd.V_drew)); exact HO_204000.out) (Kd.R_base ho0) hb)
         have n1_ := Aside0.mk (Kd.V_elder' (by (with_reducible repeat (first | apply Kd.V_alloc | apply Kd.V_drewN | apply Kd.V_drew)); exact HO_204001.out) (Kd.R_base ho0) hb)
         have n2_ := Aside0.mk (Kd.R_below (by (with_reducible repeat (first | apply Kd.R_alloc | apply Kd.R_drewN | apply Kd.R_drew)); exact HO216.out) hb)
         have n3_ := Aside0.mk (Kd.R_below (by (with_reducible repeat (first | apply Kd.R_alloc | apply Kd.R_drewN | apply Kd.R_drew)); exact HO219.out) hb)
         have n4_ := Aside0.mk (Kd.R_below (by (with_reducible repeat (first | apply Kd.R_alloc | apply Kd.R_drewN | apply Kd.R_drew)); exact HO223.out) hb)
         have n5_ := Aside0.mk (Kd.R_below (by (with_reducible repeat (first | apply Kd.R_alloc | apply Kd.R_drewN | apply Kd.R_drew)); exact HO226.out) hb)
         have n6_ := Aside0.mk (Kd.R_elder' (by (with_reducible repeat (first | apply Kd.R_alloc | apply Kd.R_drewN | apply Kd.R_drew)); exact HO230.out) (Kd.R_base ho0) hb)
         have n7_ := Aside0.mk (Kd.R_lower (Kd.R_new' ho0 (Kd.R_lt (by (with_reducible repeat (first | apply Kd.R_alloc | apply Kd.R_drewN | apply Kd.R_drew)); exact HO230.out))) (below_size (by repeat (first | (with_reducible first | exact HB.out | apply below_alloc | apply pw_below_drewN | apply below_drew1 | refine below_set ?_ GE203.out | refine below_set ?_ GE204.out) | exact HB.out))))
         have n8_ := Aside0.mk (blk_below (g := gb203) (o := .cells #[.slice Ao11 t206.length co11, .slice Ao13 t209.length co13] 30 (0, 0)) (by (with_reducible repeat (first | refine blk_drewN ?_ _ | refine blk_drew ?_ | refine blk_alloc ?_ _)); exact BK203.out) hb)
         have n9_ := Aside0.mk (blk_below (g := gb204) (o := .cells #[.int .i64 a1_0, .int .i64 a1_1] 23 (0, 0)) (by (with_reducible repeat (first | refine blk_drewN ?_ _ | refine blk_drew ?_ | refine blk_alloc ?_ _)); exact BK204.out) hb)
         have n10_ := Aside0.mk (below_step (by repeat (first | (with_reducible first | exact HB.out | apply below_alloc | apply pw_below_drewN | apply below_drew1 | refine below_set ?_ GE203.out | refine below_set ?_ GE204.out) | exact HB.out)) hb)
         clear HO_204000
         clear HO_204001
         clear HO216
         clear HO219
         clear HO223
         clear HO226
         clear HO230
         clear BK203
         clear BK204
         clear HB
         have HO_204000 := n0_
         have HO_204001 := n1_
         have HO216 := n2_
         have HO219 := n3_
         have HO223 := n4_
         have HO226 := n5_
         have HO230 := n6_
         have HO233 := n7_
         have BK203 := n8_
         have BK204 := n9_
         have HB := n10_
         clear n0_ n1_ n2_ n3_ n4_ n5_ n6_ n7_ n8_ n9_ n10_
         (try clear hb)
         (try clear hb2)
         (try clear hk)
         (try clear hi)
         (try clear ho0)
         obtain ⟨Ao57, co57, eo57⟩ := Kd.R_slice HO230.out
         (first | subst eo57 | (injection eo57 with f1_ f2_ f3_; have f4_ := f1_.symm; have f5_ := f3_.symm; clear f1_ f2_ f3_; subst f4_; subst f5_))
         obtain ⟨Ao58, co58, eo58⟩ := Kd.R_slice HO233.out
         (first | subst eo58 | (injection eo58 with f1_ f2_ f3_; have f4_ := f1_.symm; have f5_ := f3_.symm; clear f1_ f2_ f3_; subst f4_; subst f5_))
         refine hK.out _ _ ⟨(blk_cell BK203.out 0).trans rfl, (blk_cell BK203.out 1).trans rfl, (blk_cell BK204.out 0).trans rfl, (blk_cell BK204.out 1).trans rfl⟩ (fun hHeld => ?_)
         clear hK K
         refine norm_ (a' := ?_) ?_ ?_
         rotate_left
         ·show Act.put _ (some 56) _ = _
          simp only [Act.put, List.setIfInBounds_toArray, List.set_cons_zero, List.set_cons_succ, i64_w, i32_w]
          rfl
         refine one_ (i := 6) (N := some 57) #[true, true, true, true, true, true, true, false] rfl rfl (one_of HT_.out (by kernel_rfl)) (by decide) (fun K hK => ?_)
         refine goes_ Try.func17 (by kernel_rfl) rfl #[.slice Ao57 t228.length co57, .slice Ao58 t231.length co58] (by rfl) rfl rfl (by (try simp only [List.map_toArray, List.map_cons, List.map_nil]); first | done | rfl | (simp only [List.length_drop, List.length_take]; rfl)) ?_
         with_reducible refine (meanderref05_Numbers.calls k1 _ _ t228 _ _ t231 true _ ?side1 ?side2 ?side3 ?side4 A32.out).mono ?_
         (case side1 => repeat (first | exact (Kd.R_reads' HO230.out).2.2 | (with_reducible refine Kd.C_alloc ?_ _) | (with_reducible refine Kd.C_drewN ?_ _) | (with_reducible refine Kd.C_drew ?_)))
         (case side2 => exact (Kd.R_reads' HO230.out).2.1)
         (case side3 => repeat (first | exact (Kd.R_reads' HO233.out).2.2 | (with_reducible refine Kd.C_alloc ?_ _) | (with_reducible refine Kd.C_drewN ?_ _) | (with_reducible refine Kd.C_drew ?_)))
         (case side4 => exact (Kd.R_reads' HO233.out).2.1)
         rintro e w' ⟨rfl, ⟨nd, rfl⟩⟩
         refine ⟨_, rfl, ?_⟩
         refine hK.out _ _ ⟨(blk_cell BK203.out 0).trans rfl, (blk_cell BK203.out 1).trans rfl, (blk_cell BK204.out 0).trans rfl, (blk_cell BK204.out 1).trans rfl⟩ (fun hHeld => ?_)
         clear hK K
         refine norm_ (a' := ?_) ?_ ?_
         rotate_left
         ·show Act.put _ (some 57) _ = _
          simp only [Act.put, List.setIfInBounds_toArray, List.set_cons_zero, List.set_cons_succ, i64_w, i32_w]
          rfl
         refine pure_ (i := 7) (N := some 9) (v := ?_) (a' := ?_) #[true, true, true, true, true, true, true, true] rfl rfl (any_of HT_.out (by kernel_rfl)) (fun _ _ _ h => h) (Or.inl ⟨by rfl, ?_⟩) ?_ ?_
         rotate_left
         ·intro w'
          go_simp
          with_reducible rfl
         rotate_left
         ·simp only [Act.put, List.setIfInBounds_toArray, List.set_cons_zero, List.set_cons_succ, i64_w, i32_w]
          rfl
         refine done_ (done_of HT_.out (by kernel_rfl)) ?_
         try go_wp2
         (try (rw [drewN_self w56]; generalize hq_ : World.drewN w56 _ = w56; have n0_ : Aside0 (Kd.R k23 23 w56 w.heap.size (fun k_ => some k_ ≠ (.slice Ao48 t217.length co48 : Value).ownBlock ∧ some k_ ≠ (.slice Ao52 t221.length co52 : Value).ownBlock ∧ some k_ ≠ (.slice Ao53 t224.length co53 : Value).ownBlock ∧ k_ ≠ gb204) (.slice Ao47 t214.length co47) t214) := ⟨by rw [← hq_]; exact (by (with_reducible repeat (first | apply Kd.R_alloc | apply Kd.R_drewN | apply Kd.R_drew)); exact Kd.R_mono HO216.out (fun _ hk => (by (repeat' refine And.intro ?_ ?_) <;> (first | exact hk | exact hk.1 | exact hk.2 | exact hk.2.1 | exact hk.2.2 | exact hk.2.2.1 | exact hk.2.2.2 | exact hk.2.2.2.1 | exact hk.2.2.2.2 | exact hk.2.2.2.2.1 | exact hk.2.2.2.2.2 | exact hk.2.2.2.2.2.1 | exact hk.1.1 | exact hk.1.2 | exact hk.1.2.1 | exact hk.1.2.2 | exact hk.1.2.2.1 | exact hk.1.2.2.2 | exact hk.1.2.2.2.1 | exact hk.1.2.2.2.2 | exact hk.1.2.2.2.2.1 | exact hk.1.2.2.2.2.2 | exact hk.1.2.2.2.2.2.1 | exact hk.1.1.1 | exact hk.1.1.2 | exact hk.1.1.2.1 | exact hk.1.1.2.2 | exact hk.1.1.2.2.1 | exact hk.1.1.2.2.2 | exact hk.1.1.2.2.2.1 | exact hk.1.1.2.2.2.2 | exact hk.1.1.2.2.2.2.1 | exact hk.1.1.2.2.2.2.2 | exact hk.1.1.2.2.2.2.2.1 | exact hk.1.1.1.1 | exact hk.1.1.1.2 | exact hk.1.1.1.2.1 | exact hk.1.1.1.2.2 | exact hk.1.1.1.2.2.1 | exact hk.1.1.1.2.2.2 | exact hk.1.1.1.2.2.2.1 | exact hk.1.1.1.2.2.2.2 | exact hk.1.1.1.2.2.2.2.1 | exact hk.1.1.1.2.2.2.2.2 | exact hk.1.1.1.2.2.2.2.2.1 | exact hk.1.1.1.1.1 | exact hk.1.1.1.1.2 | exact hk.1.1.1.1.2.1 | exact hk.1.1.1.1.2.2 | exact hk.1.1.1.1.2.2.1 | exact hk.1.1.1.1.2.2.2 | exact hk.1.1.1.1.2.2.2.1 | exact hk.1.1.1.1.2.2.2.2 | exact hk.1.1.1.1.2.2.2.2.1 | exact hk.1.1.1.1.2.2.2.2.2 | exact hk.1.1.1.1.2.2.2.2.2.1 | exact hk.1.1.1.1.1.1 | exact hk.1.1.1.1.1.2 | exact hk.1.1.1.1.1.2.1 | exact hk.1.1.1.1.1.2.2 | exact hk.1.1.1.1.1.2.2.1 | exact hk.1.1.1.1.1.2.2.2 | exact hk.1.1.1.1.1.2.2.2.1 | exact hk.1.1.1.1.1.2.2.2.2 | exact hk.1.1.1.1.1.2.2.2.2.1 | exact hk.1.1.1.1.1.2.2.2.2.2 | exact hk.1.1.1.1.1.2.2.2.2.2.1 | exact hk.1.1.1.1.1.1.1 | exact hk.1.1.1.1.1.1.2 | exact hk.1.1.1.1.1.1.2.1 | exact hk.1.1.1.1.1.1.2.2 | exact hk.1.1.1.1.1.1.2.2.1 | exact hk.1.1.1.1.1.1.2.2.2 | exact hk.1.1.1.1.1.1.2.2.2.1 | exact hk.1.1.1.1.1.1.2.2.2.2 | exact hk.1.1.1.1.1.1.2.2.2.2.1 | exact hk.1.1.1.1.1.1.2.2.2.2.2 | exact hk.1.1.1.1.1.1.2.2.2.2.2.1 | exact hk.1.1.1.1.1.1.1.1 | exact hk.1.1.1.1.1.1.1.2 | exact hk.1.1.1.1.1.1.1.2.1 | exact hk.1.1.1.1.1.1.1.2.2 | exact hk.1.1.1.1.1.1.1.2.2.1 | exact hk.1.1.1.1.1.1.1.2.2.2 | exact hk.1.1.1.1.1.1.1.2.2.2.1 | exact hk.1.1.1.1.1.1.1.2.2.2.2 | exact hk.1.1.1.1.1.1.1.2.2.2.2.1 | exact hk.1.1.1.1.1.1.1.2.2.2.2.2 | exact hk.1.1.1.1.1.1.1.2.2.2.2.2.1))))⟩; have n1_ : Aside0 (Kd.R k23 23 w56 w.heap.size (fun k_ => some k_ ≠ (.slice Ao47 t214.length co47 : Value).ownBlock ∧ some k_ ≠ (.slice Ao52 t221.length co52 : Value).ownBlock ∧ some k_ ≠ (.slice Ao53 t224.length co53 : Value).ownBlock ∧ k_ ≠ gb204) (.slice Ao48 t217.length co48) t217) := ⟨by rw [← hq_]; exact (by (with_reducible repeat (first | apply Kd.R_alloc | apply Kd.R_drewN | apply Kd.R_drew)); exact Kd.R_mono HO219.out (fun _ hk => (by (repeat' refine And.intro ?_ ?_) <;> (first | exact hk | exact hk.1 | exact hk.2 | exact hk.2.1 | exact hk.2.2 | exact hk.2.2.1 | exact hk.2.2.2 | exact hk.2.2.2.1 | exact hk.2.2.2.2 | exact hk.2.2.2.2.1 | exact hk.2.2.2.2.2 | exact hk.2.2.2.2.2.1 | exact hk.1.1 | exact hk.1.2 | exact hk.1.2.1 | exact hk.1.2.2 | exact hk.1.2.2.1 | exact hk.1.2.2.2 | exact hk.1.2.2.2.1 | exact hk.1.2.2.2.2 | exact hk.1.2.2.2.2.1 | exact hk.1.2.2.2.2.2 | exact hk.1.2.2.2.2.2.1 | exact hk.1.1.1 | exact hk.1.1.2 | exact hk.1.1.2.1 | exact hk.1.1.2.2 | exact hk.1.1.2.2.1 | exact hk.1.1.2.2.2 | exact hk.1.1.2.2.2.1 | exact hk.1.1.2.2.2.2 | exact hk.1.1.2.2.2.2.1 | exact hk.1.1.2.2.2.2.2 | exact hk.1.1.2.2.2.2.2.1 | exact hk.1.1.1.1 | exact hk.1.1.1.2 | exact hk.1.1.1.2.1 | exact hk.1.1.1.2.2 | exact hk.1.1.1.2.2.1 | exact hk.1.1.1.2.2.2 | exact hk.1.1.1.2.2.2.1 | exact hk.1.1.1.2.2.2.2 | exact hk.1.1.1.2.2.2.2.1 | exact hk.1.1.1.2.2.2.2.2 | exact hk.1.1.1.2.2.2.2.2.1 | exact hk.1.1.1.1.1 | exact hk.1.1.1.1.2 | exact hk.1.1.1.1.2.1 | exact hk.1.1.1.1.2.2 | exact hk.1.1.1.1.2.2.1 | exact hk.1.1.1.1.2.2.2 | exact hk.1.1.1.1.2.2.2.1 | exact hk.1.1.1.1.2.2.2.2 | exact hk.1.1.1.1.2.2.2.2.1 | exact hk.1.1.1.1.2.2.2.2.2 | exact hk.1.1.1.1.2.2.2.2.2.1 | exact hk.1.1.1.1.1.1 | exact hk.1.1.1.1.1.2 | exact hk.1.1.1.1.1.2.1 | exact hk.1.1.1.1.1.2.2 | exact hk.1.1.1.1.1.2.2.1 | exact hk.1.1.1.1.1.2.2.2 | exact hk.1.1.1.1.1.2.2.2.1 | exact hk.1.1.1.1.1.2.2.2.2 | exact hk.1.1.1.1.1.2.2.2.2.1 | exact hk.1.1.1.1.1.2.2.2.2.2 | exact hk.1.1.1.1.1.2.2.2.2.2.1 | exact hk.1.1.1.1.1.1.1 | exact hk.1.1.1.1.1.1.2 | exact hk.1.1.1.1.1.1.2.1 | exact hk.1.1.1.1.1.1.2.2 | exact hk.1.1.1.1.1.1.2.2.1 | exact hk.1.1.1.1.1.1.2.2.2 | exact hk.1.1.1.1.1.1.2.2.2.1 | exact hk.1.1.1.1.1.1.2.2.2.2 | exact hk.1.1.1.1.1.1.2.2.2.2.1 | exact hk.1.1.1.1.1.1.2.2.2.2.2 | exact hk.1.1.1.1.1.1.2.2.2.2.2.1 | exact hk.1.1.1.1.1.1.1.1 | exact hk.1.1.1.1.1.1.1.2 | exact hk.1.1.1.1.1.1.1.2.1 | exact hk.1.1.1.1.1.1.1.2.2 | exact hk.1.1.1.1.1.1.1.2.2.1 | exact hk.1.1.1.1.1.1.1.2.2.2 | exact hk.1.1.1.1.1.1.1.2.2.2.1 | exact hk.1.1.1.1.1.1.1.2.2.2.2 | exact hk.1.1.1.1.1.1.1.2.2.2.2.1 | exact hk.1.1.1.1.1.1.1.2.2.2.2.2 | exact hk.1.1.1.1.1.1.1.2.2.2.2.2.1))))⟩; have n2_ : Aside0 (Kd.R k23 23 w56 w.heap.size (fun k_ => some k_ ≠ (.slice Ao47 t214.length co47 : Value).ownBlock ∧ some k_ ≠ (.slice Ao48 t217.length co48 : Value).ownBlock ∧ some k_ ≠ (.slice Ao53 t224.length co53 : Value).ownBlock ∧ k_ ≠ gb204) (.slice Ao52 t221.length co52) t221) := ⟨by rw [← hq_]; exact (by (with_reducible repeat (first | apply Kd.R_alloc | apply Kd.R_drewN | apply Kd.R_drew)); exact Kd.R_mono HO223.out (fun _ hk => (by (repeat' refine And.intro ?_ ?_) <;> (first | exact hk | exact hk.1 | exact hk.2 | exact hk.2.1 | exact hk.2.2 | exact hk.2.2.1 | exact hk.2.2.2 | exact hk.2.2.2.1 | exact hk.2.2.2.2 | exact hk.2.2.2.2.1 | exact hk.2.2.2.2.2 | exact hk.2.2.2.2.2.1 | exact hk.1.1 | exact hk.1.2 | exact hk.1.2.1 | exact hk.1.2.2 | exact hk.1.2.2.1 | exact hk.1.2.2.2 | exact hk.1.2.2.2.1 | exact hk.1.2.2.2.2 | exact hk.1.2.2.2.2.1 | exact hk.1.2.2.2.2.2 | exact hk.1.2.2.2.2.2.1 | exact hk.1.1.1 | exact hk.1.1.2 | exact hk.1.1.2.1 | exact hk.1.1.2.2 | exact hk.1.1.2.2.1 | exact hk.1.1.2.2.2 | exact hk.1.1.2.2.2.1 | exact hk.1.1.2.2.2.2 | exact hk.1.1.2.2.2.2.1 | exact hk.1.1.2.2.2.2.2 | exact hk.1.1.2.2.2.2.2.1 | exact hk.1.1.1.1 | exact hk.1.1.1.2 | exact hk.1.1.1.2.1 | exact hk.1.1.1.2.2 | exact hk.1.1.1.2.2.1 | exact hk.1.1.1.2.2.2 | exact hk.1.1.1.2.2.2.1 | exact hk.1.1.1.2.2.2.2 | exact hk.1.1.1.2.2.2.2.1 | exact hk.1.1.1.2.2.2.2.2 | exact hk.1.1.1.2.2.2.2.2.1 | exact hk.1.1.1.1.1 | exact hk.1.1.1.1.2 | exact hk.1.1.1.1.2.1 | exact hk.1.1.1.1.2.2 | exact hk.1.1.1.1.2.2.1 | exact hk.1.1.1.1.2.2.2 | exact hk.1.1.1.1.2.2.2.1 | exact hk.1.1.1.1.2.2.2.2 | exact hk.1.1.1.1.2.2.2.2.1 | exact hk.1.1.1.1.2.2.2.2.2 | exact hk.1.1.1.1.2.2.2.2.2.1 | exact hk.1.1.1.1.1.1 | exact hk.1.1.1.1.1.2 | exact hk.1.1.1.1.1.2.1 | exact hk.1.1.1.1.1.2.2 | exact hk.1.1.1.1.1.2.2.1 | exact hk.1.1.1.1.1.2.2.2 | exact hk.1.1.1.1.1.2.2.2.1 | exact hk.1.1.1.1.1.2.2.2.2 | exact hk.1.1.1.1.1.2.2.2.2.1 | exact hk.1.1.1.1.1.2.2.2.2.2 | exact hk.1.1.1.1.1.2.2.2.2.2.1 | exact hk.1.1.1.1.1.1.1 | exact hk.1.1.1.1.1.1.2 | exact hk.1.1.1.1.1.1.2.1 | exact hk.1.1.1.1.1.1.2.2 | exact hk.1.1.1.1.1.1.2.2.1 | exact hk.1.1.1.1.1.1.2.2.2 | exact hk.1.1.1.1.1.1.2.2.2.1 | exact hk.1.1.1.1.1.1.2.2.2.2 | exact hk.1.1.1.1.1.1.2.2.2.2.1 | exact hk.1.1.1.1.1.1.2.2.2.2.2 | exact hk.1.1.1.1.1.1.2.2.2.2.2.1 | exact hk.1.1.1.1.1.1.1.1 | exact hk.1.1.1.1.1.1.1.2 | exact hk.1.1.1.1.1.1.1.2.1 | exact hk.1.1.1.1.1.1.1.2.2 | exact hk.1.1.1.1.1.1.1.2.2.1 | exact hk.1.1.1.1.1.1.1.2.2.2 | exact hk.1.1.1.1.1.1.1.2.2.2.1 | exact hk.1.1.1.1.1.1.1.2.2.2.2 | exact hk.1.1.1.1.1.1.1.2.2.2.2.1 | exact hk.1.1.1.1.1.1.1.2.2.2.2.2 | exact hk.1.1.1.1.1.1.1.2.2.2.2.2.1))))⟩; have n3_ : Aside0 (Kd.R k23 23 w56 w.heap.size (fun k_ => some k_ ≠ (.slice Ao47 t214.length co47 : Value).ownBlock ∧ some k_ ≠ (.slice Ao48 t217.length co48 : Value).ownBlock ∧ some k_ ≠ (.slice Ao52 t221.length co52 : Value).ownBlock ∧ k_ ≠ gb204) (.slice Ao53 t224.length co53) t224) := ⟨by rw [← hq_]; exact (by (with_reducible repeat (first | apply Kd.R_alloc | apply Kd.R_drewN | apply Kd.R_drew)); exact Kd.R_mono HO226.out (fun _ hk => (by (repeat' refine And.intro ?_ ?_) <;> (first | exact hk | exact hk.1 | exact hk.2 | exact hk.2.1 | exact hk.2.2 | exact hk.2.2.1 | exact hk.2.2.2 | exact hk.2.2.2.1 | exact hk.2.2.2.2 | exact hk.2.2.2.2.1 | exact hk.2.2.2.2.2 | exact hk.2.2.2.2.2.1 | exact hk.1.1 | exact hk.1.2 | exact hk.1.2.1 | exact hk.1.2.2 | exact hk.1.2.2.1 | exact hk.1.2.2.2 | exact hk.1.2.2.2.1 | exact hk.1.2.2.2.2 | exact hk.1.2.2.2.2.1 | exact hk.1.2.2.2.2.2 | exact hk.1.2.2.2.2.2.1 | exact hk.1.1.1 | exact hk.1.1.2 | exact hk.1.1.2.1 | exact hk.1.1.2.2 | exact hk.1.1.2.2.1 | exact hk.1.1.2.2.2 | exact hk.1.1.2.2.2.1 | exact hk.1.1.2.2.2.2 | exact hk.1.1.2.2.2.2.1 | exact hk.1.1.2.2.2.2.2 | exact hk.1.1.2.2.2.2.2.1 | exact hk.1.1.1.1 | exact hk.1.1.1.2 | exact hk.1.1.1.2.1 | exact hk.1.1.1.2.2 | exact hk.1.1.1.2.2.1 | exact hk.1.1.1.2.2.2 | exact hk.1.1.1.2.2.2.1 | exact hk.1.1.1.2.2.2.2 | exact hk.1.1.1.2.2.2.2.1 | exact hk.1.1.1.2.2.2.2.2 | exact hk.1.1.1.2.2.2.2.2.1 | exact hk.1.1.1.1.1 | exact hk.1.1.1.1.2 | exact hk.1.1.1.1.2.1 | exact hk.1.1.1.1.2.2 | exact hk.1.1.1.1.2.2.1 | exact hk.1.1.1.1.2.2.2 | exact hk.1.1.1.1.2.2.2.1 | exact hk.1.1.1.1.2.2.2.2 | exact hk.1.1.1.1.2.2.2.2.1 | exact hk.1.1.1.1.2.2.2.2.2 | exact hk.1.1.1.1.2.2.2.2.2.1 | exact hk.1.1.1.1.1.1 | exact hk.1.1.1.1.1.2 | exact hk.1.1.1.1.1.2.1 | exact hk.1.1.1.1.1.2.2 | exact hk.1.1.1.1.1.2.2.1 | exact hk.1.1.1.1.1.2.2.2 | exact hk.1.1.1.1.1.2.2.2.1 | exact hk.1.1.1.1.1.2.2.2.2 | exact hk.1.1.1.1.1.2.2.2.2.1 | exact hk.1.1.1.1.1.2.2.2.2.2 | exact hk.1.1.1.1.1.2.2.2.2.2.1 | exact hk.1.1.1.1.1.1.1 | exact hk.1.1.1.1.1.1.2 | exact hk.1.1.1.1.1.1.2.1 | exact hk.1.1.1.1.1.1.2.2 | exact hk.1.1.1.1.1.1.2.2.1 | exact hk.1.1.1.1.1.1.2.2.2 | exact hk.1.1.1.1.1.1.2.2.2.1 | exact hk.1.1.1.1.1.1.2.2.2.2 | exact hk.1.1.1.1.1.1.2.2.2.2.1 | exact hk.1.1.1.1.1.1.2.2.2.2.2 | exact hk.1.1.1.1.1.1.2.2.2.2.2.1 | exact hk.1.1.1.1.1.1.1.1 | exact hk.1.1.1.1.1.1.1.2 | exact hk.1.1.1.1.1.1.1.2.1 | exact hk.1.1.1.1.1.1.1.2.2 | exact hk.1.1.1.1.1.1.1.2.2.1 | exact hk.1.1.1.1.1.1.1.2.2.2 | exact hk.1.1.1.1.1.1.1.2.2.2.1 | exact hk.1.1.1.1.1.1.1.2.2.2.2 | exact hk.1.1.1.1.1.1.1.2.2.2.2.1 | exact hk.1.1.1.1.1.1.1.2.2.2.2.2 | exact hk.1.1.1.1.1.1.1.2.2.2.2.2.1))))⟩; have n4_ : Aside0 (Kd.R (Kd.int .i64) 3 w56 w.heap.size (fun k_ => some k_ ≠ (.slice Ao58 t231.length co58 : Value).ownBlock) (.slice Ao57 t228.length co57) t228) := ⟨by rw [← hq_]; exact (by (with_reducible repeat (first | apply Kd.R_alloc | apply Kd.R_drewN | apply Kd.R_drew)); exact Kd.R_mono HO230.out (fun _ hk => hk.2))⟩; have n5_ : Aside0 (Kd.R (Kd.int .i64) 3 w56 w.heap.size (fun k_ => some k_ ≠ (.slice Ao57 t228.length co57 : Value).ownBlock) (.slice Ao58 t231.length co58) t231) := ⟨by rw [← hq_]; exact (by (with_reducible repeat (first | apply Kd.R_alloc | apply Kd.R_drewN | apply Kd.R_drew)); exact Kd.R_mono HO233.out (fun _ hk => hk.2))⟩; have n6_ : Aside0 (Kd.V k38 38 w56 w.heap.size (fun k_ => some k_ ≠ (.slice Ao47 t214.length co47 : Value).ownBlock ∧ some k_ ≠ (.slice Ao48 t217.length co48 : Value).ownBlock ∧ some k_ ≠ (.slice Ao52 t221.length co52 : Value).ownBlock ∧ some k_ ≠ (.slice Ao53 t224.length co53 : Value).ownBlock ∧ some k_ ≠ (.slice Ao57 t228.length co57 : Value).ownBlock ∧ some k_ ≠ (.slice Ao58 t231.length co58 : Value).ownBlock ∧ k_ ≠ gb203 ∧ k_ ≠ gb204) (.slice Ao11 t206.length co11) t206) := ⟨by rw [← hq_]; exact (by (with_reducible repeat (first | apply Kd.V_alloc | apply Kd.V_drewN | apply Kd.V_drew)); exact Kd.V_mono HO_204000.out (fun _ hk => (by (repeat' refine And.intro ?_ ?_) <;> (first | exact hk | exact hk.1 | exact hk.2 | exact hk.2.1 | exact hk.2.2 | exact hk.2.2.1 | exact hk.2.2.2 | exact hk.2.2.2.1 | exact hk.2.2.2.2 | exact hk.2.2.2.2.1 | exact hk.2.2.2.2.2 | exact hk.2.2.2.2.2.1 | exact hk.1.1 | exact hk.1.2 | exact hk.1.2.1 | exact hk.1.2.2 | exact hk.1.2.2.1 | exact hk.1.2.2.2 | exact hk.1.2.2.2.1 | exact hk.1.2.2.2.2 | exact hk.1.2.2.2.2.1 | exact hk.1.2.2.2.2.2 | exact hk.1.2.2.2.2.2.1 | exact hk.1.1.1 | exact hk.1.1.2 | exact hk.1.1.2.1 | exact hk.1.1.2.2 | exact hk.1.1.2.2.1 | exact hk.1.1.2.2.2 | exact hk.1.1.2.2.2.1 | exact hk.1.1.2.2.2.2 | exact hk.1.1.2.2.2.2.1 | exact hk.1.1.2.2.2.2.2 | exact hk.1.1.2.2.2.2.2.1 | exact hk.1.1.1.1 | exact hk.1.1.1.2 | exact hk.1.1.1.2.1 | exact hk.1.1.1.2.2 | exact hk.1.1.1.2.2.1 | exact hk.1.1.1.2.2.2 | exact hk.1.1.1.2.2.2.1 | exact hk.1.1.1.2.2.2.2 | exact hk.1.1.1.2.2.2.2.1 | exact hk.1.1.1.2.2.2.2.2 | exact hk.1.1.1.2.2.2.2.2.1 | exact hk.1.1.1.1.1 | exact hk.1.1.1.1.2 | exact hk.1.1.1.1.2.1 | exact hk.1.1.1.1.2.2 | exact hk.1.1.1.1.2.2.1 | exact hk.1.1.1.1.2.2.2 | exact hk.1.1.1.1.2.2.2.1 | exact hk.1.1.1.1.2.2.2.2 | exact hk.1.1.1.1.2.2.2.2.1 | exact hk.1.1.1.1.2.2.2.2.2 | exact hk.1.1.1.1.2.2.2.2.2.1 | exact hk.1.1.1.1.1.1 | exact hk.1.1.1.1.1.2 | exact hk.1.1.1.1.1.2.1 | exact hk.1.1.1.1.1.2.2 | exact hk.1.1.1.1.1.2.2.1 | exact hk.1.1.1.1.1.2.2.2 | exact hk.1.1.1.1.1.2.2.2.1 | exact hk.1.1.1.1.1.2.2.2.2 | exact hk.1.1.1.1.1.2.2.2.2.1 | exact hk.1.1.1.1.1.2.2.2.2.2 | exact hk.1.1.1.1.1.2.2.2.2.2.1 | exact hk.1.1.1.1.1.1.1 | exact hk.1.1.1.1.1.1.2 | exact hk.1.1.1.1.1.1.2.1 | exact hk.1.1.1.1.1.1.2.2 | exact hk.1.1.1.1.1.1.2.2.1 | exact hk.1.1.1.1.1.1.2.2.2 | exact hk.1.1.1.1.1.1.2.2.2.1 | exact hk.1.1.1.1.1.1.2.2.2.2 | exact hk.1.1.1.1.1.1.2.2.2.2.1 | exact hk.1.1.1.1.1.1.2.2.2.2.2 | exact hk.1.1.1.1.1.1.2.2.2.2.2.1 | exact hk.1.1.1.1.1.1.1.1 | exact hk.1.1.1.1.1.1.1.2 | exact hk.1.1.1.1.1.1.1.2.1 | exact hk.1.1.1.1.1.1.1.2.2 | exact hk.1.1.1.1.1.1.1.2.2.1 | exact hk.1.1.1.1.1.1.1.2.2.2 | exact hk.1.1.1.1.1.1.1.2.2.2.1 | exact hk.1.1.1.1.1.1.1.2.2.2.2 | exact hk.1.1.1.1.1.1.1.2.2.2.2.1 | exact hk.1.1.1.1.1.1.1.2.2.2.2.2 | exact hk.1.1.1.1.1.1.1.2.2.2.2.2.1))))⟩; have n7_ : Aside0 (Kd.V k35 35 w56 w.heap.size (fun k_ => some k_ ≠ (.slice Ao47 t214.length co47 : Value).ownBlock ∧ some k_ ≠ (.slice Ao48 t217.length co48 : Value).ownBlock ∧ some k_ ≠ (.slice Ao52 t221.length co52 : Value).ownBlock ∧ some k_ ≠ (.slice Ao53 t224.length co53 : Value).ownBlock ∧ some k_ ≠ (.slice Ao57 t228.length co57 : Value).ownBlock ∧ some k_ ≠ (.slice Ao58 t231.length co58 : Value).ownBlock ∧ k_ ≠ gb203 ∧ k_ ≠ gb204) (.slice Ao13 t209.length co13) t209) := ⟨by rw [← hq_]; exact (by (with_reducible repeat (first | apply Kd.V_alloc | apply Kd.V_drewN | apply Kd.V_drew)); exact Kd.V_mono HO_204001.out (fun _ hk => (by (repeat' refine And.intro ?_ ?_) <;> (first | exact hk | exact hk.1 | exact hk.2 | exact hk.2.1 | exact hk.2.2 | exact hk.2.2.1 | exact hk.2.2.2 | exact hk.2.2.2.1 | exact hk.2.2.2.2 | exact hk.2.2.2.2.1 | exact hk.2.2.2.2.2 | exact hk.2.2.2.2.2.1 | exact hk.1.1 | exact hk.1.2 | exact hk.1.2.1 | exact hk.1.2.2 | exact hk.1.2.2.1 | exact hk.1.2.2.2 | exact hk.1.2.2.2.1 | exact hk.1.2.2.2.2 | exact hk.1.2.2.2.2.1 | exact hk.1.2.2.2.2.2 | exact hk.1.2.2.2.2.2.1 | exact hk.1.1.1 | exact hk.1.1.2 | exact hk.1.1.2.1 | exact hk.1.1.2.2 | exact hk.1.1.2.2.1 | exact hk.1.1.2.2.2 | exact hk.1.1.2.2.2.1 | exact hk.1.1.2.2.2.2 | exact hk.1.1.2.2.2.2.1 | exact hk.1.1.2.2.2.2.2 | exact hk.1.1.2.2.2.2.2.1 | exact hk.1.1.1.1 | exact hk.1.1.1.2 | exact hk.1.1.1.2.1 | exact hk.1.1.1.2.2 | exact hk.1.1.1.2.2.1 | exact hk.1.1.1.2.2.2 | exact hk.1.1.1.2.2.2.1 | exact hk.1.1.1.2.2.2.2 | exact hk.1.1.1.2.2.2.2.1 | exact hk.1.1.1.2.2.2.2.2 | exact hk.1.1.1.2.2.2.2.2.1 | exact hk.1.1.1.1.1 | exact hk.1.1.1.1.2 | exact hk.1.1.1.1.2.1 | exact hk.1.1.1.1.2.2 | exact hk.1.1.1.1.2.2.1 | exact hk.1.1.1.1.2.2.2 | exact hk.1.1.1.1.2.2.2.1 | exact hk.1.1.1.1.2.2.2.2 | exact hk.1.1.1.1.2.2.2.2.1 | exact hk.1.1.1.1.2.2.2.2.2 | exact hk.1.1.1.1.2.2.2.2.2.1 | exact hk.1.1.1.1.1.1 | exact hk.1.1.1.1.1.2 | exact hk.1.1.1.1.1.2.1 | exact hk.1.1.1.1.1.2.2 | exact hk.1.1.1.1.1.2.2.1 | exact hk.1.1.1.1.1.2.2.2 | exact hk.1.1.1.1.1.2.2.2.1 | exact hk.1.1.1.1.1.2.2.2.2 | exact hk.1.1.1.1.1.2.2.2.2.1 | exact hk.1.1.1.1.1.2.2.2.2.2 | exact hk.1.1.1.1.1.2.2.2.2.2.1 | exact hk.1.1.1.1.1.1.1 | exact hk.1.1.1.1.1.1.2 | exact hk.1.1.1.1.1.1.2.1 | exact hk.1.1.1.1.1.1.2.2 | exact hk.1.1.1.1.1.1.2.2.1 | exact hk.1.1.1.1.1.1.2.2.2 | exact hk.1.1.1.1.1.1.2.2.2.1 | exact hk.1.1.1.1.1.1.2.2.2.2 | exact hk.1.1.1.1.1.1.2.2.2.2.1 | exact hk.1.1.1.1.1.1.2.2.2.2.2 | exact hk.1.1.1.1.1.1.2.2.2.2.2.1 | exact hk.1.1.1.1.1.1.1.1 | exact hk.1.1.1.1.1.1.1.2 | exact hk.1.1.1.1.1.1.1.2.1 | exact hk.1.1.1.1.1.1.1.2.2 | exact hk.1.1.1.1.1.1.1.2.2.1 | exact hk.1.1.1.1.1.1.1.2.2.2 | exact hk.1.1.1.1.1.1.1.2.2.2.1 | exact hk.1.1.1.1.1.1.1.2.2.2.2 | exact hk.1.1.1.1.1.1.1.2.2.2.2.1 | exact hk.1.1.1.1.1.1.1.2.2.2.2.2 | exact hk.1.1.1.1.1.1.1.2.2.2.2.2.1))))⟩; have n8_ : Aside0 (w56.heap[gb203]? = some (.cells #[.slice Ao11 t206.length co11, .slice Ao13 t209.length co13] 30 (0, 0))) := ⟨by rw [← hq_]; exact (by (with_reducible repeat (first | refine blk_drewN ?_ _ | refine blk_drew ?_ | refine blk_alloc ?_ _)); exact BK203.out)⟩; have n9_ : Aside0 (w56.heap[gb204]? = some (.cells #[.int .i64 a1_0, .int .i64 a1_1] 23 (0, 0))) := ⟨by rw [← hq_]; exact (by (with_reducible repeat (first | refine blk_drewN ?_ _ | refine blk_drew ?_ | refine blk_alloc ?_ _)); exact BK204.out)⟩; have n10_ : Aside0 (Below w.heap.size w w56) := ⟨by rw [← hq_]; exact (by repeat (first | (with_reducible first | exact HB.out | apply below_alloc | apply pw_below_drewN | apply below_drew1 | refine below_set ?_ GE203.out | refine below_set ?_ GE204.out) | exact HB.out))⟩; clear HO216 HO219 HO223 HO226 HO230 HO233 HO_204000 HO_204001 BK203 BK204 HB hq_; have HO216 := n0_; have HO219 := n1_; have HO223 := n2_; have HO226 := n3_; have HO230 := n4_; have HO233 := n5_; have HO_204000 := n6_; have HO_204001 := n7_; have BK203 := n8_; have BK204 := n9_; have HB := n10_; clear n0_ n1_ n2_ n3_ n4_ n5_ n6_ n7_ n8_ n9_ n10_))
         have n0_ := Aside0.mk (Kd.V_drew HO_204000.out)
         have n1_ := Aside0.mk (Kd.V_drew HO_204001.out)
         have n2_ := Aside0.mk (Kd.R_drew HO216.out)
         have n3_ := Aside0.mk (Kd.R_drew HO219.out)
         have n4_ := Aside0.mk (Kd.R_drew HO223.out)
         have n5_ := Aside0.mk (Kd.R_drew HO226.out)
         have n6_ := Aside0.mk (Kd.R_drew HO230.out)
         have n7_ := Aside0.mk (Kd.R_drew HO233.out)
         have n8_ := Aside0.mk (blk_drew BK203.out)
         have n9_ := Aside0.mk (blk_drew BK204.out)
         have n10_ := Aside0.mk (below_drew1 HB.out)
         clear HO_204000
         clear HO_204001
         clear HO216
         clear HO219
         clear HO223
         clear HO226
         clear HO230
         clear HO233
         clear BK203
         clear BK204
         clear HB
         have HO_204000 := n0_
         have HO_204001 := n1_
         have HO216 := n2_
         have HO219 := n3_
         have HO223 := n4_
         have HO226 := n5_
         have HO230 := n6_
         have HO233 := n7_
         have BK203 := n8_
         have BK204 := n9_
         have HB := n10_
         clear n0_ n1_ n2_ n3_ n4_ n5_ n6_ n7_ n8_ n9_ n10_
         refine start_ (n := 29) (S := fun w' => w'.cell? ⟨gb203, 0, none⟩ = some (.slice Ao11 t206.length co11) ∧ w'.cell? ⟨gb203, 1, none⟩ = some (.slice Ao13 t209.length co13) ∧ w'.cell? ⟨gb204, 0, none⟩ = some (.int .i64 a1_0) ∧ w'.cell? ⟨gb204, 1, none⟩ = some (.int .i64 a1_1)) (ds := []) #[false, false, false, false, false, false, false, false, false, false, false, false, false, false, false, false, false, false, false, false, false, false, false, false, false, false, false, false, false] (by kernel_rfl) rfl rfl ⟨(blk_cell BK203.out 0).trans rfl, (blk_cell BK203.out 1).trans rfl, (blk_cell BK204.out 0).trans rfl, (blk_cell BK204.out 1).trans rfl⟩ (fun hHeld => ?_); refine with_tabW meanderlaw08_GraphPlaces.tab11 meanderlaw08_GraphPlaces.bits11 (fun HT_ HW_ => ?_)
         generalize w56.drew = w59 at HO_204000 HO_204001 HO216 HO219 HO223 HO226 HO230 HO233 BK203 BK204 HB hHeld ⊢
         refine pure_ (i := 0) (N := some 58) (v := ?_) (a' := ?_) #[true, false, false, false, false, false, false, false, false, false, false, false, false, false, false, false, false, false, false, false, false, false, false, false, false, false, false, false, false] rfl rfl (any_of HT_.out (by kernel_rfl)) (fun _ _ _ h => h) (Or.inl ⟨by rfl, ?_⟩) ?_ ?_
         rotate_left
         ·intro w'
          go_simp
          with_reducible rfl
         rotate_left
         ·simp only [Act.put, List.setIfInBounds_toArray, List.set_cons_zero, List.set_cons_succ, i64_w, i32_w]
          rfl
         refine pure_ (i := 1) (N := some 59) (v := ?_) (a' := ?_) #[true, true, false, false, false, false, false, false, false, false, false, false, false, false, false, false, false, false, false, false, false, false, false, false, false, false, false, false, false] rfl rfl (any_of HT_.out (by kernel_rfl)) (fun _ _ _ h => h) (Or.inl ⟨by rfl, ?_⟩) ?_ ?_
         rotate_left
         ·intro w'
          go_simp
          with_reducible rfl
         rotate_left
         ·simp only [Act.put, List.setIfInBounds_toArray, List.set_cons_zero, List.set_cons_succ, i64_w, i32_w]
          rfl
         refine pure_ (i := 2) (N := some 60) (v := ?_) (a' := ?_) #[true, true, true, false, false, false, false, false, false, false, false, false, false, false, false, false, false, false, false, false, false, false, false, false, false, false, false, false, false] rfl rfl (any_of HT_.out (by kernel_rfl)) (fun _ _ _ h => h) (Or.inl ⟨by rfl, ?_⟩) ?_ ?_
         rotate_left
         ·intro w'
          go_simp
          with_reducible rfl
         rotate_left
         ·simp only [Act.put, List.setIfInBounds_toArray, List.set_cons_zero, List.set_cons_succ, i64_w, i32_w]
          rfl
         refine pure_ (i := 3) (N := some 61) (v := ?_) (a' := ?_) #[true, true, true, true, false, false, false, false, false, false, false, false, false, false, false, false, false, false, false, false, false, false, false, false, false, false, false, false, false] rfl rfl (any_of HT_.out (by kernel_rfl)) (fun _ _ _ h => h) (Or.inl ⟨by rfl, ?_⟩) ?_ ?_
         rotate_left
         ·intro w'
          go_simp
          with_reducible rfl
         rotate_left
         ·simp only [Act.put, List.setIfInBounds_toArray, List.set_cons_zero, List.set_cons_succ, i64_w, i32_w]
          rfl
         refine pure_ (i := 4) (N := some 62) (v := ?_) (a' := ?_) #[true, true, true, true, true, false, false, false, false, false, false, false, false, false, false, false, false, false, false, false, false, false, false, false, false, false, false, false, false] rfl rfl (any_of HT_.out (by kernel_rfl)) (fun _ _ _ h => h) (Or.inl ⟨by rfl, ?_⟩) ?_ ?_
         rotate_left
         ·intro w'
          go_simp
          with_reducible rfl
         rotate_left
         ·simp only [Act.put, List.setIfInBounds_toArray, List.set_cons_zero, List.set_cons_succ, i64_w, i32_w]
          rfl
         refine pure_ (i := 5) (N := some 63) (v := ?_) (a' := ?_) #[true, true, true, true, true, true, false, false, false, false, false, false, false, false, false, false, false, false, false, false, false, false, false, false, false, false, false, false, false] rfl rfl (any_of HT_.out (by kernel_rfl)) (fun _ _ _ h => h) (Or.inl ⟨by rfl, ?_⟩) ?_ ?_
         rotate_left
         ·intro w'
          go_simp
          with_reducible rfl
         rotate_left
         ·simp only [Act.put, List.setIfInBounds_toArray, List.set_cons_zero, List.set_cons_succ, i64_w, i32_w]
          rfl
         refine pure_ (i := 6) (N := some 64) (v := ?_) (a' := ?_) #[true, true, true, true, true, true, true, false, false, false, false, false, false, false, false, false, false, false, false, false, false, false, false, false, false, false, false, false, false] rfl rfl (any_of HT_.out (by kernel_rfl)) (fun _ _ _ h => h) (Or.inl ⟨by rfl, ?_⟩) ?_ ?_
         rotate_left
         ·intro w'
          go_simp
          with_reducible rfl
         rotate_left
         ·simp only [Act.put, List.setIfInBounds_toArray, List.set_cons_zero, List.set_cons_succ, i64_w, i32_w]
          rfl
         refine pure_ (i := 7) (N := some 65) (v := ?_) (a' := ?_) #[true, true, true, true, true, true, true, true, false, false, false, false, false, false, false, false, false, false, false, false, false, false, false, false, false, false, false, false, false] rfl rfl (any_of HT_.out (by kernel_rfl)) (fun _ _ _ h => h) (Or.inl ⟨by rfl, ?_⟩) ?_ ?_
         rotate_left
         ·intro w'
          go_simp
          with_reducible rfl
         rotate_left
         ·simp only [Act.put, List.setIfInBounds_toArray, List.set_cons_zero, List.set_cons_succ, i64_w, i32_w]
          rfl
         refine pure_ (i := 8) (N := some 66) (v := ?_) (a' := ?_) #[true, true, true, true, true, true, true, true, true, false, false, false, false, false, false, false, false, false, false, false, false, false, false, false, false, false, false, false, false] rfl rfl (any_of HT_.out (by kernel_rfl)) (fun _ _ _ h => h) (Or.inl ⟨by rfl, ?_⟩) ?_ ?_
         rotate_left
         ·intro w'
          go_simp
          with_reducible rfl
         rotate_left
         ·simp only [Act.put, List.setIfInBounds_toArray, List.set_cons_zero, List.set_cons_succ, i64_w, i32_w]
          rfl
         refine pure_ (i := 9) (N := some 67) (v := ?_) (a' := ?_) #[true, true, true, true, true, true, true, true, true, true, false, false, false, false, false, false, false, false, false, false, false, false, false, false, false, false, false, false, false] rfl rfl (any_of HT_.out (by kernel_rfl)) (fun _ _ _ h => h) (Or.inl ⟨by rfl, ?_⟩) ?_ ?_
         rotate_left
         ·intro w'
          go_simp
          with_reducible rfl
         rotate_left
         ·simp only [Act.put, List.setIfInBounds_toArray, List.set_cons_zero, List.set_cons_succ, i64_w, i32_w]
          rfl
         refine pure_ (i := 10) (N := some 68) (v := ?_) (a' := ?_) #[true, true, true, true, true, true, true, true, true, true, true, false, false, false, false, false, false, false, false, false, false, false, false, false, false, false, false, false, false] rfl rfl (any_of HT_.out (by kernel_rfl)) (fun _ _ _ h => h) (Or.inl ⟨by rfl, ?_⟩) ?_ ?_
         rotate_left
         ·intro w'
          go_simp
          with_reducible rfl
         rotate_left
         ·simp only [Act.put, List.setIfInBounds_toArray, List.set_cons_zero, List.set_cons_succ, i64_w, i32_w]
          rfl
         refine take_ (i := 11) (N := some 69) (v := ?_) (a' := ?_) #[true, true, true, true, true, true, true, true, true, true, true, true, false, false, false, false, false, false, false, false, false, false, false, false, false, false, false, false, false] rfl rfl (take_ofW HT_.out HW_.out (by kernel_rfl)) (fun _ _ _ h => h) (Or.inl ⟨by rfl, ?_⟩) hHeld ?_ ?_
         rotate_left
         ·rintro w' ⟨s0, s1, s2, s3⟩
          go_simp
          with_reducible rfl
         rotate_left
         ·simp only [Act.put, List.setIfInBounds_toArray, List.set_cons_zero, List.set_cons_succ, i64_w, i32_w]
          rfl
         refine take_ (i := 12) (N := some 70) (v := ?_) (a' := ?_) #[true, true, true, true, true, true, true, true, true, true, true, true, true, false, false, false, false, false, false, false, false, false, false, false, false, false, false, false, false] rfl rfl (take_ofW HT_.out HW_.out (by kernel_rfl)) (fun _ _ _ h => h) (Or.inl ⟨by rfl, ?_⟩) hHeld ?_ ?_
         rotate_left
         ·rintro w' ⟨s0, s1, s2, s3⟩
          go_simp
          with_reducible rfl
         rotate_left
         ·simp only [Act.put, List.setIfInBounds_toArray, List.set_cons_zero, List.set_cons_succ, i64_w, i32_w]
          rfl
         refine take_ (i := 14) (N := some 72) (v := ?_) (a' := ?_) #[true, true, true, true, true, true, true, true, true, true, true, true, true, false, true, false, false, false, false, false, false, false, false, false, false, false, false, false, false] rfl rfl (take_ofW HT_.out HW_.out (by kernel_rfl)) (fun _ _ _ h => h) (Or.inl ⟨by rfl, ?_⟩) hHeld ?_ ?_
         rotate_left
         ·rintro w' ⟨s0, s1, s2, s3⟩
          go_simp
          with_reducible rfl
         rotate_left
         ·simp only [Act.put, List.setIfInBounds_toArray, List.set_cons_zero, List.set_cons_succ, i64_w, i32_w]
          rfl
         refine take_ (i := 15) (N := some 73) (v := ?_) (a' := ?_) #[true, true, true, true, true, true, true, true, true, true, true, true, true, false, true, true, false, false, false, false, false, false, false, false, false, false, false, false, false] rfl rfl (take_ofW HT_.out HW_.out (by kernel_rfl)) (fun _ _ _ h => h) (Or.inl ⟨by rfl, ?_⟩) hHeld ?_ ?_
         rotate_left
         ·rintro w' ⟨s0, s1, s2, s3⟩
          go_simp
          with_reducible rfl
         rotate_left
         ·simp only [Act.put, List.setIfInBounds_toArray, List.set_cons_zero, List.set_cons_succ, i64_w, i32_w]
          rfl
         refine one_ (i := 13) (N := some 71) #[true, true, true, true, true, true, true, true, true, true, true, true, true, true, true, true, false, false, false, false, false, false, false, false, false, false, false, false, false] rfl rfl (one_of HT_.out (by kernel_rfl)) (by decide) (fun K hK => ?_)
         refine goes_ Try.func20 (by kernel_rfl) rfl #[.agg #[.slice Ao11 t206.length co11, .slice Ao13 t209.length co13], .agg #[.int .i64 a1_0, .int .i64 a1_1]] (by rfl) rfl rfl (by (try simp only [List.map_toArray, List.map_cons, List.map_nil]); first | done | rfl | (simp only [List.length_drop, List.length_take]; rfl)) ?_
         with_reducible refine (graph_Is.calls k1 _ _ t206 _ _ t209 a1_0 a1_1 t235 _ ?side1 ?side2 ?side3 ?side4 A37.out).mono ?_
         (case side1 => repeat (first | exact (Kd.V_reads' HO_204000.out).2.2 | (with_reducible refine Kd.C_alloc ?_ _) | (with_reducible refine Kd.C_drewN ?_ _) | (with_reducible refine Kd.C_drew ?_)))
         (case side2 => exact (Kd.V_reads' HO_204000.out).2.1)
         (case side3 => repeat (first | exact (Kd.V_reads' HO_204001.out).2.2 | (with_reducible refine Kd.C_alloc ?_ _) | (with_reducible refine Kd.C_drewN ?_ _) | (with_reducible refine Kd.C_drew ?_)))
         (case side4 => exact (Kd.V_reads' HO_204001.out).2.1)
         rintro e w60 ⟨rfl, hb⟩
         refine ⟨_, rfl, ?_⟩
         have n0_ := Aside0.mk (Kd.V_below (by (with_reducible repeat (first | apply Kd.V_alloc | apply Kd.V_drewN | apply Kd.V_drew)); exact HO_204000.out) hb)
         have n1_ := Aside0.mk (Kd.V_below (by (with_reducible repeat (first | apply Kd.V_alloc | apply Kd.V_drewN | apply Kd.V_drew)); exact HO_204001.out) hb)
         have n2_ := Aside0.mk (Kd.R_below (by (with_reducible repeat (first | apply Kd.R_alloc | apply Kd.R_drewN | apply Kd.R_drew)); exact HO216.out) hb)
         have n3_ := Aside0.mk (Kd.R_below (by (with_reducible repeat (first | apply Kd.R_alloc | apply Kd.R_drewN | apply Kd.R_drew)); exact HO219.out) hb)
         have n4_ := Aside0.mk (Kd.R_below (by (with_reducible repeat (first | apply Kd.R_alloc | apply Kd.R_drewN | apply Kd.R_drew)); exact HO223.out) hb)
         have n5_ := Aside0.mk (Kd.R_below (by (with_reducible repeat (first | apply Kd.R_alloc | apply Kd.R_drewN | apply Kd.R_drew)); exact HO226.out) hb)
         have n6_ := Aside0.mk (Kd.R_below (by (with_reducible repeat (first | apply Kd.R_alloc | apply Kd.R_drewN | apply Kd.R_drew)); exact HO230.out) hb)
         have n7_ := Aside0.mk (Kd.R_below (by (with_reducible repeat (first | apply Kd.R_alloc | apply Kd.R_drewN | apply Kd.R_drew)); exact HO233.out) hb)
         have n8_ := Aside0.mk (blk_below (g := gb203) (o := .cells #[.slice Ao11 t206.length co11, .slice Ao13 t209.length co13] 30 (0, 0)) (by (with_reducible repeat (first | refine blk_drewN ?_ _ | refine blk_drew ?_ | refine blk_alloc ?_ _)); exact BK203.out) hb)
         have n9_ := Aside0.mk (blk_below (g := gb204) (o := .cells #[.int .i64 a1_0, .int .i64 a1_1] 23 (0, 0)) (by (with_reducible repeat (first | refine blk_drewN ?_ _ | refine blk_drew ?_ | refine blk_alloc ?_ _)); exact BK204.out) hb)
         have n10_ := Aside0.mk (below_step (by repeat (first | (with_reducible first | exact HB.out | apply below_alloc | apply pw_below_drewN | apply below_drew1 | refine below_set ?_ GE203.out | refine below_set ?_ GE204.out) | exact HB.out)) hb)
         clear HO_204000
         clear HO_204001
         clear HO216
         clear HO219
         clear HO223
         clear HO226
         clear HO230
         clear HO233
         clear BK203
         clear BK204
         clear HB
         have HO_204000 := n0_
         have HO_204001 := n1_
         have HO216 := n2_
         have HO219 := n3_
         have HO223 := n4_
         have HO226 := n5_
         have HO230 := n6_
         have HO233 := n7_
         have BK203 := n8_
         have BK204 := n9_
         have HB := n10_
         clear n0_ n1_ n2_ n3_ n4_ n5_ n6_ n7_ n8_ n9_ n10_
         (try clear hb)
         (try clear hb2)
         (try clear hk)
         (try clear hi)
         refine hK.out _ _ ⟨(blk_cell BK203.out 0).trans rfl, (blk_cell BK203.out 1).trans rfl, (blk_cell BK204.out 0).trans rfl, (blk_cell BK204.out 1).trans rfl⟩ (fun hHeld => ?_)
         clear hK K
         refine norm_ (a' := ?_) ?_ ?_
         rotate_left
         ·show Act.put _ (some 71) _ = _
          simp only [Act.put, List.setIfInBounds_toArray, List.set_cons_zero, List.set_cons_succ, i64_w, i32_w]
          rfl
         refine one_ (i := 16) (N := some 74) #[true, true, true, true, true, true, true, true, true, true, true, true, true, true, true, true, true, false, false, false, false, false, false, false, false, false, false, false, false] rfl rfl (one_of HT_.out (by kernel_rfl)) (by decide) (fun K hK => ?_)
         refine goes_ Try.func21 (by kernel_rfl) rfl #[.agg #[.slice Ao11 t206.length co11, .slice Ao13 t209.length co13], .agg #[.int .i64 a1_0, .int .i64 a1_1]] (by rfl) rfl rfl (by (try simp only [List.map_toArray, List.map_cons, List.map_nil]); first | done | rfl | (simp only [List.length_drop, List.length_take]; rfl)) ?_
         with_reducible refine (meanderref08_Is.calls k1 _ _ t206 _ _ t209 a1_0 a1_1 t236 _ ?side1 ?side2 ?side3 ?side4 A38.out).mono ?_
         (case side1 => repeat (first | exact (Kd.V_reads' HO_204000.out).2.2 | (with_reducible refine Kd.C_alloc ?_ _) | (with_reducible refine Kd.C_drewN ?_ _) | (with_reducible refine Kd.C_drew ?_)))
         (case side2 => exact (Kd.V_reads' HO_204000.out).2.1)
         (case side3 => repeat (first | exact (Kd.V_reads' HO_204001.out).2.2 | (with_reducible refine Kd.C_alloc ?_ _) | (with_reducible refine Kd.C_drewN ?_ _) | (with_reducible refine Kd.C_drew ?_)))
         (case side4 => exact (Kd.V_reads' HO_204001.out).2.1)
         rintro e w61 ⟨rfl, hb⟩
         refine ⟨_, rfl, ?_⟩
         have n0_ := Aside0.mk (Kd.V_below (by (with_reducible repeat (first | apply Kd.V_alloc | apply Kd.V_drewN | apply Kd.V_drew)); exact HO_204000.out) hb)
         have n1_ := Aside0.mk (Kd.V_below (by (with_reducible repeat (first | apply Kd.V_alloc | apply Kd.V_drewN | apply Kd.V_drew)); exact HO_204001.out) hb)
         have n2_ := Aside0.mk (Kd.R_below (by (with_reducible repeat (first | apply Kd.R_alloc | apply Kd.R_drewN | apply Kd.R_drew)); exact HO216.out) hb)
         have n3_ := Aside0.mk (Kd.R_below (by (with_reducible repeat (first | apply Kd.R_alloc | apply Kd.R_drewN | apply Kd.R_drew)); exact HO219.out) hb)
         have n4_ := Aside0.mk (Kd.R_below (by (with_reducible repeat (first | apply Kd.R_alloc | apply Kd.R_drewN | apply Kd.R_drew)); exact HO223.out) hb)
         have n5_ := Aside0.mk (Kd.R_below (by (with_reducible repeat (first | apply Kd.R_alloc | apply Kd.R_drewN | apply Kd.R_drew)); exact HO226.out) hb)
         have n6_ := Aside0.mk (Kd.R_below (by (with_reducible repeat (first | apply Kd.R_alloc | apply Kd.R_drewN | apply Kd.R_drew)); exact HO230.out) hb)
         have n7_ := Aside0.mk (Kd.R_below (by (with_reducible repeat (first | apply Kd.R_alloc | apply Kd.R_drewN | apply Kd.R_drew)); exact HO233.out) hb)
         have n8_ := Aside0.mk (blk_below (g := gb203) (o := .cells #[.slice Ao11 t206.length co11, .slice Ao13 t209.length co13] 30 (0, 0)) (by (with_reducible repeat (first | refine blk_drewN ?_ _ | refine blk_drew ?_ | refine blk_alloc ?_ _)); exact BK203.out) hb)
         have n9_ := Aside0.mk (blk_below (g := gb204) (o := .cells #[.int .i64 a1_0, .int .i64 a1_1] 23 (0, 0)) (by (with_reducible repeat (first | refine blk_drewN ?_ _ | refine blk_drew ?_ | refine blk_alloc ?_ _)); exact BK204.out) hb)
         have n10_ := Aside0.mk (below_step (by repeat (first | (with_reducible first | exact HB.out | apply below_alloc | apply pw_below_drewN | apply below_drew1 | refine below_set ?_ GE203.out | refine below_set ?_ GE204.out) | exact HB.out)) hb)
         clear HO_204000
         clear HO_204001
         clear HO216
         clear HO219
         clear HO223
         clear HO226
         clear HO230
         clear HO233
         clear BK203
         clear BK204
         clear HB
         have HO_204000 := n0_
         have HO_204001 := n1_
         have HO216 := n2_
         have HO219 := n3_
         have HO223 := n4_
         have HO226 := n5_
         have HO230 := n6_
         have HO233 := n7_
         have BK203 := n8_
         have BK204 := n9_
         have HB := n10_
         clear n0_ n1_ n2_ n3_ n4_ n5_ n6_ n7_ n8_ n9_ n10_
         (try clear hb)
         (try clear hb2)
         (try clear hk)
         (try clear hi)
         refine hK.out _ _ ⟨(blk_cell BK203.out 0).trans rfl, (blk_cell BK203.out 1).trans rfl, (blk_cell BK204.out 0).trans rfl, (blk_cell BK204.out 1).trans rfl⟩ (fun hHeld => ?_)
         clear hK K
         refine norm_ (a' := ?_) ?_ ?_
         rotate_left
         ·show Act.put _ (some 74) _ = _
          simp only [Act.put, List.setIfInBounds_toArray, List.set_cons_zero, List.set_cons_succ, i64_w, i32_w]
          rfl
         refine pure_ (i := 17) (N := some 75) (v := ?_) (a' := ?_) #[true, true, true, true, true, true, true, true, true, true, true, true, true, true, true, true, true, true, false, false, false, false, false, false, false, false, false, false, false] rfl rfl (any_of HT_.out (by kernel_rfl)) (fun _ _ _ h => h) (Or.inl ⟨by rfl, ?_⟩) ?_ ?_
         rotate_left
         ·intro w'
          go_simp
          with_reducible rfl
         rotate_left
         ·simp only [Act.put, List.setIfInBounds_toArray, List.set_cons_zero, List.set_cons_succ, i64_w, i32_w]
          rfl
         refine pure_ (i := 18) (N := some 76) (v := ?_) (a' := ?_) #[true, true, true, true, true, true, true, true, true, true, true, true, true, true, true, true, true, true, true, false, false, false, false, false, false, false, false, false, false] rfl rfl (any_of HT_.out (by kernel_rfl)) (fun _ _ _ h => h) (Or.inl ⟨by rfl, ?_⟩) ?_ ?_
         rotate_left
         ·intro w'
          go_simp
          with_reducible rfl
         rotate_left
         ·simp only [Act.put, List.setIfInBounds_toArray, List.set_cons_zero, List.set_cons_succ, i64_w, i32_w]
          rfl
         refine pure_ (i := 19) (N := some 77) (v := ?_) (a' := ?_) #[true, true, true, true, true, true, true, true, true, true, true, true, true, true, true, true, true, true, true, true, false, false, false, false, false, false, false, false, false] rfl rfl (any_of HT_.out (by kernel_rfl)) (fun _ _ _ h => h) (Or.inl ⟨by rfl, ?_⟩) ?_ ?_
         rotate_left
         ·intro w'
          go_simp
          with_reducible rfl
         rotate_left
         ·simp only [Act.put, List.setIfInBounds_toArray, List.set_cons_zero, List.set_cons_succ, i64_w, i32_w]
          rfl
         refine take_ (i := 20) (N := some 78) (v := ?_) (a' := ?_) #[true, true, true, true, true, true, true, true, true, true, true, true, true, true, true, true, true, true, true, true, true, false, false, false, false, false, false, false, false] rfl rfl (take_ofW HT_.out HW_.out (by kernel_rfl)) (fun _ _ _ h => h) (Or.inl ⟨by rfl, ?_⟩) hHeld ?_ ?_
         rotate_left
         ·rintro w' ⟨s0, s1, s2, s3⟩
          go_simp
          with_reducible rfl
         rotate_left
         ·simp only [Act.put, List.setIfInBounds_toArray, List.set_cons_zero, List.set_cons_succ, i64_w, i32_w]
          rfl
         refine take_ (i := 21) (N := some 79) (v := ?_) (a' := ?_) #[true, true, true, true, true, true, true, true, true, true, true, true, true, true, true, true, true, true, true, true, true, true, false, false, false, false, false, false, false] rfl rfl (take_ofW HT_.out HW_.out (by kernel_rfl)) (fun _ _ _ h => h) (Or.inl ⟨by rfl, ?_⟩) hHeld ?_ ?_
         rotate_left
         ·rintro w' ⟨s0, s1, s2, s3⟩
          go_simp
          with_reducible rfl
         rotate_left
         ·simp only [Act.put, List.setIfInBounds_toArray, List.set_cons_zero, List.set_cons_succ, i64_w, i32_w]
          rfl
         refine take_ (i := 23) (N := some 81) (v := ?_) (a' := ?_) #[true, true, true, true, true, true, true, true, true, true, true, true, true, true, true, true, true, true, true, true, true, true, false, true, false, false, false, false, false] rfl rfl (take_ofW HT_.out HW_.out (by kernel_rfl)) (fun _ _ _ h => h) (Or.inl ⟨by rfl, ?_⟩) hHeld ?_ ?_
         rotate_left
         ·rintro w' ⟨s0, s1, s2, s3⟩
          go_simp
          with_reducible rfl
         rotate_left
         ·simp only [Act.put, List.setIfInBounds_toArray, List.set_cons_zero, List.set_cons_succ, i64_w, i32_w]
          rfl
         refine take_ (i := 24) (N := some 82) (v := ?_) (a' := ?_) #[true, true, true, true, true, true, true, true, true, true, true, true, true, true, true, true, true, true, true, true, true, true, false, true, true, false, false, false, false] rfl rfl (take_ofW HT_.out HW_.out (by kernel_rfl)) (fun _ _ _ h => h) (Or.inl ⟨by rfl, ?_⟩) hHeld ?_ ?_
         rotate_left
         ·rintro w' ⟨s0, s1, s2, s3⟩
          go_simp
          with_reducible rfl
         rotate_left
         ·simp only [Act.put, List.setIfInBounds_toArray, List.set_cons_zero, List.set_cons_succ, i64_w, i32_w]
          rfl
         refine one_ (i := 22) (N := some 80) #[true, true, true, true, true, true, true, true, true, true, true, true, true, true, true, true, true, true, true, true, true, true, true, true, true, false, false, false, false] rfl rfl (one_of HT_.out (by kernel_rfl)) (by decide) (fun K hK => ?_)
         refine goes_ Try.func22 (by kernel_rfl) rfl #[.agg #[.slice Ao11 t206.length co11, .slice Ao13 t209.length co13], .agg #[.int .i64 a1_0, .int .i64 a1_1]] (by rfl) rfl rfl (by (try simp only [List.map_toArray, List.map_cons, List.map_nil]); first | done | rfl | (simp only [List.length_drop, List.length_take]; rfl)) ?_
         with_reducible refine (graph_Depth.calls k1 _ _ t206 _ _ t209 a1_0 a1_1 t237 _ ?side1 ?side2 ?side3 ?side4 A40.out).mono ?_
         (case side1 => repeat (first | exact (Kd.V_reads' HO_204000.out).2.2 | (with_reducible refine Kd.C_alloc ?_ _) | (with_reducible refine Kd.C_drewN ?_ _) | (with_reducible refine Kd.C_drew ?_)))
         (case side2 => exact (Kd.V_reads' HO_204000.out).2.1)
         (case side3 => repeat (first | exact (Kd.V_reads' HO_204001.out).2.2 | (with_reducible refine Kd.C_alloc ?_ _) | (with_reducible refine Kd.C_drewN ?_ _) | (with_reducible refine Kd.C_drew ?_)))
         (case side4 => exact (Kd.V_reads' HO_204001.out).2.1)
         rintro e w62 ⟨rfl, hb⟩
         refine ⟨_, rfl, ?_⟩
         have n0_ := Aside0.mk (Kd.V_below (by (with_reducible repeat (first | apply Kd.V_alloc | apply Kd.V_drewN | apply Kd.V_drew)); exact HO_204000.out) hb)
         have n1_ := Aside0.mk (Kd.V_below (by (with_reducible repeat (first | apply Kd.V_alloc | apply Kd.V_drewN | apply Kd.V_drew)); exact HO_204001.out) hb)
         have n2_ := Aside0.mk (Kd.R_below (by (with_reducible repeat (first | apply Kd.R_alloc | apply Kd.R_drewN | apply Kd.R_drew)); exact HO216.out) hb)
         have n3_ := Aside0.mk (Kd.R_below (by (with_reducible repeat (first | apply Kd.R_alloc | apply Kd.R_drewN | apply Kd.R_drew)); exact HO219.out) hb)
         have n4_ := Aside0.mk (Kd.R_below (by (with_reducible repeat (first | apply Kd.R_alloc | apply Kd.R_drewN | apply Kd.R_drew)); exact HO223.out) hb)
         have n5_ := Aside0.mk (Kd.R_below (by (with_reducible repeat (first | apply Kd.R_alloc | apply Kd.R_drewN | apply Kd.R_drew)); exact HO226.out) hb)
         have n6_ := Aside0.mk (Kd.R_below (by (with_reducible repeat (first | apply Kd.R_alloc | apply Kd.R_drewN | apply Kd.R_drew)); exact HO230.out) hb)
         have n7_ := Aside0.mk (Kd.R_below (by (with_reducible repeat (first | apply Kd.R_alloc | apply Kd.R_drewN | apply Kd.R_drew)); exact HO233.out) hb)
         have n8_ := Aside0.mk (blk_below (g := gb203) (o := .cells #[.slice Ao11 t206.length co11, .slice Ao13 t209.length co13] 30 (0, 0)) (by (with_reducible repeat (first | refine blk_drewN ?_ _ | refine blk_drew ?_ | refine blk_alloc ?_ _)); exact BK203.out) hb)
         have n9_ := Aside0.mk (blk_below (g := gb204) (o := .cells #[.int .i64 a1_0, .int .i64 a1_1] 23 (0, 0)) (by (with_reducible repeat (first | refine blk_drewN ?_ _ | refine blk_drew ?_ | refine blk_alloc ?_ _)); exact BK204.out) hb)
         have n10_ := Aside0.mk (below_step (by repeat (first | (with_reducible first | exact HB.out | apply below_alloc | apply pw_below_drewN | apply below_drew1 | refine below_set ?_ GE203.out | refine below_set ?_ GE204.out) | exact HB.out)) hb)
         clear HO_204000
         clear HO_204001
         clear HO216
         clear HO219
         clear HO223
         clear HO226
         clear HO230
         clear HO233
         clear BK203
         clear BK204
         clear HB
         have HO_204000 := n0_
         have HO_204001 := n1_
         have HO216 := n2_
         have HO219 := n3_
         have HO223 := n4_
         have HO226 := n5_
         have HO230 := n6_
         have HO233 := n7_
         have BK203 := n8_
         have BK204 := n9_
         have HB := n10_
         clear n0_ n1_ n2_ n3_ n4_ n5_ n6_ n7_ n8_ n9_ n10_
         (try clear hb)
         (try clear hb2)
         (try clear hk)
         (try clear hi)
         refine hK.out _ _ ⟨(blk_cell BK203.out 0).trans rfl, (blk_cell BK203.out 1).trans rfl, (blk_cell BK204.out 0).trans rfl, (blk_cell BK204.out 1).trans rfl⟩ (fun hHeld => ?_)
         clear hK K
         refine norm_ (a' := ?_) ?_ ?_
         rotate_left
         ·show Act.put _ (some 80) _ = _
          simp only [Act.put, List.setIfInBounds_toArray, List.set_cons_zero, List.set_cons_succ, i64_w, i32_w]
          rfl
         refine one_ (i := 25) (N := some 83) #[true, true, true, true, true, true, true, true, true, true, true, true, true, true, true, true, true, true, true, true, true, true, true, true, true, true, false, false, false] rfl rfl (one_of HT_.out (by kernel_rfl)) (by decide) (fun K hK => ?_)
         refine goes_ Try.func23 (by kernel_rfl) rfl #[.agg #[.slice Ao11 t206.length co11, .slice Ao13 t209.length co13], .agg #[.int .i64 a1_0, .int .i64 a1_1]] (by rfl) rfl rfl (by (try simp only [List.map_toArray, List.map_cons, List.map_nil]); first | done | rfl | (simp only [List.length_drop, List.length_take]; rfl)) ?_
         with_reducible refine (meanderref08_Depth.calls k1 _ _ t206 _ _ t209 a1_0 a1_1 t238 _ ?side1 ?side2 ?side3 ?side4 A41.out).mono ?_
         (case side1 => repeat (first | exact (Kd.V_reads' HO_204000.out).2.2 | (with_reducible refine Kd.C_alloc ?_ _) | (with_reducible refine Kd.C_drewN ?_ _) | (with_reducible refine Kd.C_drew ?_)))
         (case side2 => exact (Kd.V_reads' HO_204000.out).2.1)
         (case side3 => repeat (first | exact (Kd.V_reads' HO_204001.out).2.2 | (with_reducible refine Kd.C_alloc ?_ _) | (with_reducible refine Kd.C_drewN ?_ _) | (with_reducible refine Kd.C_drew ?_)))
         (case side4 => exact (Kd.V_reads' HO_204001.out).2.1)
         rintro e w63 ⟨rfl, hb⟩
         refine ⟨_, rfl, ?_⟩
         have n0_ := Aside0.mk (Kd.V_below (by (with_reducible repeat (first | apply Kd.V_alloc | apply Kd.V_drewN | apply Kd.V_drew)); exact HO_204000.out) hb)
         have n1_ := Aside0.mk (Kd.V_below (by (with_reducible repeat (first | apply Kd.V_alloc | apply Kd.V_drewN | apply Kd.V_drew)); exact HO_204001.out) hb)
         have n2_ := Aside0.mk (Kd.R_below (by (with_reducible repeat (first | apply Kd.R_alloc | apply Kd.R_drewN | apply Kd.R_drew)); exact HO216.out) hb)
         have n3_ := Aside0.mk (Kd.R_below (by (with_reducible repeat (first | apply Kd.R_alloc | apply Kd.R_drewN | apply Kd.R_drew)); exact HO219.out) hb)
         have n4_ := Aside0.mk (Kd.R_below (by (with_reducible repeat (first | apply Kd.R_alloc | apply Kd.R_drewN | apply Kd.R_drew)); exact HO223.out) hb)
         have n5_ := Aside0.mk (Kd.R_below (by (with_reducible repeat (first | apply Kd.R_alloc | apply Kd.R_drewN | apply Kd.R_drew)); exact HO226.out) hb)
         have n6_ := Aside0.mk (Kd.R_below (by (with_reducible repeat (first | apply Kd.R_alloc | apply Kd.R_drewN | apply Kd.R_drew)); exact HO230.out) hb)
         have n7_ := Aside0.mk (Kd.R_below (by (with_reducible repeat (first | apply Kd.R_alloc | apply Kd.R_drewN | apply Kd.R_drew)); exact HO233.out) hb)
         have n8_ := Aside0.mk (blk_below (g := gb203) (o := .cells #[.slice Ao11 t206.length co11, .slice Ao13 t209.length co13] 30 (0, 0)) (by (with_reducible repeat (first | refine blk_drewN ?_ _ | refine blk_drew ?_ | refine blk_alloc ?_ _)); exact BK203.out) hb)
         have n9_ := Aside0.mk (blk_below (g := gb204) (o := .cells #[.int .i64 a1_0, .int .i64 a1_1] 23 (0, 0)) (by (with_reducible repeat (first | refine blk_drewN ?_ _ | refine blk_drew ?_ | refine blk_alloc ?_ _)); exact BK204.out) hb)
         have n10_ := Aside0.mk (below_step (by repeat (first | (with_reducible first | exact HB.out | apply below_alloc | apply pw_below_drewN | apply below_drew1 | refine below_set ?_ GE203.out | refine below_set ?_ GE204.out) | exact HB.out)) hb)
         clear HO_204000
         clear HO_204001
         clear HO216
         clear HO219
         clear HO223
         clear HO226
         clear HO230
         clear HO233
         clear BK203
         clear BK204
         clear HB
         have HO_204000 := n0_
         have HO_204001 := n1_
         have HO216 := n2_
         have HO219 := n3_
         have HO223 := n4_
         have HO226 := n5_
         have HO230 := n6_
         have HO233 := n7_
         have BK203 := n8_
         have BK204 := n9_
         have HB := n10_
         clear n0_ n1_ n2_ n3_ n4_ n5_ n6_ n7_ n8_ n9_ n10_
         (try clear hb)
         (try clear hb2)
         (try clear hk)
         (try clear hi)
         refine hK.out _ _ ⟨(blk_cell BK203.out 0).trans rfl, (blk_cell BK203.out 1).trans rfl, (blk_cell BK204.out 0).trans rfl, (blk_cell BK204.out 1).trans rfl⟩ (fun hHeld => ?_)
         clear hK K
         refine norm_ (a' := ?_) ?_ ?_
         rotate_left
         ·show Act.put _ (some 83) _ = _
          simp only [Act.put, List.setIfInBounds_toArray, List.set_cons_zero, List.set_cons_succ, i64_w, i32_w]
          rfl
         refine pure_ (i := 26) (N := some 84) (v := ?_) (a' := ?_) #[true, true, true, true, true, true, true, true, true, true, true, true, true, true, true, true, true, true, true, true, true, true, true, true, true, true, true, false, false] rfl rfl (any_of HT_.out (by kernel_rfl)) (fun _ _ _ h => h) (Or.inl ⟨by rfl, ?_⟩) ?_ ?_
         rotate_left
         ·intro w'
          go_simp
          with_reducible rfl
         rotate_left
         ·simp only [Act.put, List.setIfInBounds_toArray, List.set_cons_zero, List.set_cons_succ, i64_w, i32_w]
          rfl
         refine pure_ (i := 27) (N := some 85) (v := ?_) (a' := ?_) #[true, true, true, true, true, true, true, true, true, true, true, true, true, true, true, true, true, true, true, true, true, true, true, true, true, true, true, true, false] rfl rfl (any_of HT_.out (by kernel_rfl)) (fun _ _ _ h => h) (Or.inl ⟨by rfl, ?_⟩) ?_ ?_
         rotate_left
         ·intro w'
          go_simp
          with_reducible rfl
         rotate_left
         ·simp only [Act.put, List.setIfInBounds_toArray, List.set_cons_zero, List.set_cons_succ, i64_w, i32_w]
          rfl
         refine pure_ (i := 28) (N := some 4) (v := ?_) (a' := ?_) #[true, true, true, true, true, true, true, true, true, true, true, true, true, true, true, true, true, true, true, true, true, true, true, true, true, true, true, true, true] rfl rfl (any_of HT_.out (by kernel_rfl)) (fun _ _ _ h => h) (Or.inl ⟨by rfl, ?_⟩) ?_ ?_
         rotate_left
         ·intro w'
          go_simp
          with_reducible rfl
         rotate_left
         ·simp only [Act.put, List.setIfInBounds_toArray, List.set_cons_zero, List.set_cons_succ, i64_w, i32_w]
          rfl
         refine done_ (done_of HT_.out (by kernel_rfl)) ?_
         try go_wp2
         go_ret
         exact ⟨by first | rfl | (simp [errW_none, errW_some] <;> rfl) | (simp [*, errW_none, errW_some] <;> rfl), by repeat (first | (with_reducible first | exact HB.out | apply below_alloc | apply pw_below_drewN | apply below_drew1 | refine below_set ?_ GE203.out | refine below_set ?_ GE204.out) | exact HB.out)⟩
        ·rw [if_neg c39] at H
         have c39b0 : (t235 == t236) = false := by simpa using c39
         (try (have c39b1 : decide (t235 = t236) = false := by simpa using c39))
         (try (have c39b2 : (t235 == t236) = false := by simpa using c39))
         (try (have c39b3 : ¬ (t235 = t236) := by simpa using c39))
         clear c39
         exact absurd H (by simp)
       ·replace c36 := Bool.eq_false_iff.mpr c36
        subst c36
        have H1 : (none) = some r := by rw [if_neg (show ¬ (false = true) by decide)] at H; exact H
        clear H
        have H := H1
        clear H1
        exact absurd H (by simp)
      ·replace c35 := Bool.eq_false_iff.mpr c35
       subst c35
       have H1 : (none) = some r := by rw [if_neg (show ¬ (false = true) by decide)] at H; exact H
       clear H
       have H := H1
       clear H1
       exact absurd H (by simp)
     ·replace c34 := Bool.eq_false_iff.mpr c34
      subst c34
      have H1 : (none) = some r := by rw [if_neg (show ¬ (false = true) by decide)] at H; exact H
      clear H
      have H := H1
      clear H1
      exact absurd H (by simp)
    ·replace c33 := Bool.eq_false_iff.mpr c33
     subst c33
     have H1 : (none) = some r := by rw [if_neg (show ¬ (false = true) by decide)] at H; exact H
     clear H
     have H := H1
     clear H1
     exact absurd H (by simp)

end Go.Proofs.Ytlhmcobocnhgoaa.PPlc
