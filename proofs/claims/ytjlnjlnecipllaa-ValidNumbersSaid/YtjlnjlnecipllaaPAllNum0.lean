-- Grafted by graft.py of this repo out of a print of the kit's printer. Not trusted: Lean checks it.
import Derived.Test.YtjlnjlnecipllaaPAllx0
import Derived.Test.YtjlnjlnecipllaaPAllx1
import Derived.Test.YtjlnjlnecipllaaPAllx7
import Derived.Test.YtjlnjlnecipllaaPAllx8
import Derived.Test.YtjlnjlnecipllaaWExtra
namespace Go.Proofs.Ytjlnjlnecipllaa.PAll
open Go.RowKit Go.Proofs.YtjlnjlnecipllaaW.PrintWords Go.Proofs.YtjlnjlnecipllaaW.PrintLast Go.Proofs.YtjlnjlnecipllaaW.PrintMore
attribute [local go_sem] max2_int min2_int max_two min_two max_three min_three max_four min_four   -- for this text's walks alone
set_option linter.unusedVariables false
set_option linter.unusedSimpArgs false

/-! ### meanderlaw09_ValidNumbers_Num0: function 7 -/
mutual
def meanderlaw09_ValidNumbers_Num0.j0 : Nat → Int → Int → Bool → Bool → List (S23) → List (S36) → Option (Bool)
 | 0, _, _, _, _, _, _ => none
 | k + 1, x1, x2, x7, x27, x199000, x199001 => if x27 = true then (some x7) else (meanderlaw09_ValidNumbers_Num0.l0 k x1 x2 x7 (wrap64 ((x199001.length : Int) - 1)) x199000 x199001 x199000 ([] : List (S36)))
def meanderlaw09_ValidNumbers_Num0.l0 : Nat → Int → Int → Bool → Int → List (S23) → List (S36) → List (S23) → List (S36) → Option (Bool)
 | 0, _, _, _, _, _, _, _, _ => none
 | k + 1, x1, x2, x7, x9, x199000, x199001, x208000, x208001 => if x9 ≥ 0 then (if 0 ≤ x9 then (if x9 < (x199001.length : Int) then (if x208001.length < 5864062014805 then (meanderlaw09_ValidNumbers_Num0.l0 k x1 x2 x7 (wrap64 (x9 - 1)) x199000 x199001 x208000 (x208001 ++ [(⟨(rd_T36 x199001 x9).f0, (rd_T36 x199001 x9).f1, (rd_T36 x199001 x9).f2⟩ : S36)])) else (none)) else (none)) else (none)) else ((some (([] : List (S23)) : List (S23))).bind fun y212 => (if y212.length + x199000.length < 4398046511104 then ((some (y212 ++ x199000 : List (S23))).bind fun y215 => (if (Go.bits .and .i64 x2 3) = 0 then (if 0 ≤ x1 then (if x1 < (y215.length : Int) then (if x7 = true then ((valid_Graph.f k x208000 x208001).bind fun t220 => (if t220 = 0 then ((valid_Graph.f k (y215.set (x1 : Int).toNat (⟨12, (rd_T23 y215 x1).f1, (rd_T23 y215 x1).f2, (rd_T23 y215 x1).f3⟩ : S23)) x199001).bind fun t221 => (some (t221 == 10))) else (none))) else (none)) else (none)) else (none)) else (none))) else (none)))
end
def meanderlaw09_ValidNumbers_Num0.f (k : Nat) (l0_0 : List (S23)) (l0_1 : List (S36)) (a1 : Int) (a2 : Int) : Option (Bool) := (meanderlaw09_shown.f k).bind fun t199 => ((meanderlaw09_few.f l0_0 l0_1).bind fun bt200 => ((valid_Graph.f k bt200.1 bt200.2).bind fun t206 => (if t206 = 0 then (if a1 < 0 then (meanderlaw09_ValidNumbers_Num0.j0 k a1 a2 t199 true bt200.1 bt200.2) else (meanderlaw09_ValidNumbers_Num0.j0 k a1 a2 t199 (decide (a1 ≥ (bt200.1.length : Int))) bt200.1 bt200.2)) else (meanderlaw09_ValidNumbers_Num0.j0 k a1 a2 t199 true bt200.1 bt200.2))))
theorem meanderlaw09_ValidNumbers_Num0.mono_l : ∀ k, (∀ y0 y1 y2 y3 y4 y5, LeO (meanderlaw09_ValidNumbers_Num0.j0 k y0 y1 y2 y3 y4 y5) (meanderlaw09_ValidNumbers_Num0.j0 (k + 1) y0 y1 y2 y3 y4 y5)) ∧ (∀ y0 y1 y2 y3 y4 y5 y6 y7, LeO (meanderlaw09_ValidNumbers_Num0.l0 k y0 y1 y2 y3 y4 y5 y6 y7) (meanderlaw09_ValidNumbers_Num0.l0 (k + 1) y0 y1 y2 y3 y4 y5 y6 y7))
 | 0 => ⟨fun _ _ _ _ _ _ r h => by simp [meanderlaw09_ValidNumbers_Num0.j0] at h, fun _ _ _ _ _ _ _ _ r h => by simp [meanderlaw09_ValidNumbers_Num0.l0] at h⟩
 | k + 1 => by
  obtain ⟨ih0, ih1⟩ := meanderlaw09_ValidNumbers_Num0.mono_l k
  refine ⟨?_, ?_⟩
  ·intro y0 y1 y2 y3 y4 y5
   unfold meanderlaw09_ValidNumbers_Num0.j0
   repeat' first
   | (with_reducible exact ih0 _ _ _ _ _ _)
   | (with_reducible exact ih1 _ _ _ _ _ _ _ _)
   | (with_reducible exact meanderlaw09_shown.mono _)
   | (with_reducible exact valid_Graph.mono _ _ _)
   | (with_reducible exact LeO.refl _)
   | (with_reducible exact LeO.none _)
   | (with_reducible refine LeO.ite ?_ ?_)
   | (with_reducible refine LeO.bind ?_ (fun _ => ?_))
   | exact ih0 _ _ _ _ _ _
   | exact ih1 _ _ _ _ _ _ _ _
   | exact meanderlaw09_shown.mono _
   | exact valid_Graph.mono _ _ _
   | exact LeO.none _
   | refine LeO.ite ?_ ?_
   | refine LeO.bind ?_ (fun _ => ?_)
  ·intro y0 y1 y2 y3 y4 y5 y6 y7
   unfold meanderlaw09_ValidNumbers_Num0.l0
   repeat' first
   | (with_reducible exact ih0 _ _ _ _ _ _)
   | (with_reducible exact ih1 _ _ _ _ _ _ _ _)
   | (with_reducible exact meanderlaw09_shown.mono _)
   | (with_reducible exact valid_Graph.mono _ _ _)
   | (with_reducible exact LeO.refl _)
   | (with_reducible exact LeO.none _)
   | (with_reducible refine LeO.ite ?_ ?_)
   | (with_reducible refine LeO.bind ?_ (fun _ => ?_))
   | exact ih0 _ _ _ _ _ _
   | exact ih1 _ _ _ _ _ _ _ _
   | exact meanderlaw09_shown.mono _
   | exact valid_Graph.mono _ _ _
   | exact LeO.none _
   | refine LeO.ite ?_ ?_
   | refine LeO.bind ?_ (fun _ => ?_)
theorem meanderlaw09_ValidNumbers_Num0.mono : ∀ a0 a1 a2 a3 k, LeO (meanderlaw09_ValidNumbers_Num0.f k a0 a1 a2 a3) (meanderlaw09_ValidNumbers_Num0.f (k + 1) a0 a1 a2 a3) := by
 intro a0 a1 a2 a3 k
 obtain ⟨ih0, ih1⟩ := meanderlaw09_ValidNumbers_Num0.mono_l k
 unfold meanderlaw09_ValidNumbers_Num0.f
 repeat' first
   | (with_reducible exact ih0 _ _ _ _ _ _)
   | (with_reducible exact ih1 _ _ _ _ _ _ _ _)
   | (with_reducible exact meanderlaw09_shown.mono _)
   | (with_reducible exact valid_Graph.mono _ _ _)
   | (with_reducible exact LeO.refl _)
   | (with_reducible exact LeO.none _)
   | (with_reducible refine LeO.ite ?_ ?_)
   | (with_reducible refine LeO.bind ?_ (fun _ => ?_))
   | exact ih0 _ _ _ _ _ _
   | exact ih1 _ _ _ _ _ _ _ _
   | exact meanderlaw09_shown.mono _
   | exact valid_Graph.mono _ _ _
   | exact LeO.none _
   | refine LeO.ite ?_ ?_
   | refine LeO.bind ?_ (fun _ => ?_)
def meanderlaw09_ValidNumbers_Num0.T9 : Bool × List (List Nat × List Nat) := (true, [([], []), ([0], [0]), ([], []), ([2], [2]), ([], []), ([3, 4], [3, 4]), ([5], [5]), ([6], [6]), ([1, 7], [1, 7]), ([0, 1, 2, 3, 4, 5, 6, 7, 8], []), ([9, 8, 8, 0, 1, 2, 3, 4, 5, 6, 7, 8], [8, 9])])
def meanderlaw09_ValidNumbers_Num0.B9 : List Nat := [0, 1, 0, 4, 0, 28, 60, 124, 255, 511, 1023]
theorem meanderlaw09_ValidNumbers_Num0.tab9 : rtab .any (opsOf Try.f7 9) = meanderlaw09_ValidNumbers_Num0.T9 := by kernel_rfl
theorem meanderlaw09_ValidNumbers_Num0.bits9 : waitsOk meanderlaw09_ValidNumbers_Num0.T9.2 meanderlaw09_ValidNumbers_Num0.B9 = true := by kernel_rfl
def meanderlaw09_ValidNumbers_Num0.T10 : Bool × List (List Nat × List Nat) := (true, [([], []), ([], []), ([1], [1]), ([0, 2], [0, 2]), ([], []), ([4], [4]), ([3, 5], [3, 5]), ([], []), ([7, 6, 3, 0, 1, 2, 3, 4, 5, 6, 7], [6, 7])])
def meanderlaw09_ValidNumbers_Num0.B10 : List Nat := [0, 0, 2, 7, 0, 16, 63, 0, 255]
theorem meanderlaw09_ValidNumbers_Num0.tab10 : rtab .any (opsOf Try.f7 10) = meanderlaw09_ValidNumbers_Num0.T10 := by kernel_rfl
theorem meanderlaw09_ValidNumbers_Num0.bits10 : waitsOk meanderlaw09_ValidNumbers_Num0.T10.2 meanderlaw09_ValidNumbers_Num0.B10 = true := by kernel_rfl
set_option maxHeartbeats 8000000 in
set_option maxRecDepth 100000 in
theorem meanderlaw09_ValidNumbers_Num0.calls (k : Nat) (A0_0 : Option Addr) (c0_0 : Nat) (l0_0 : List (S23)) (A0_1 : Option Addr) (c0_1 : Nat) (l0_1 : List (S36)) (a1 : Int) (a2 : Int) (r : Bool) (w : World) (hr0_0 : Kd.C k23 w A0_0 l0_0.length l0_0) (hc0_0 : l0_0.length ≤ c0_0) (hr0_1 : Kd.C k36 w A0_1 l0_1.length l0_1) (hc0_1 : l0_1.length ≤ c0_1) (h : meanderlaw09_ValidNumbers_Num0.f k l0_0 l0_1 a1 a2 = some r) :
  Calls Try.prog 7 #[.agg #[.slice A0_0 l0_0.length c0_0, .slice A0_1 l0_1.length c0_1], .int .i64 a1, .int .i64 a2] w fun e w' => e = .returned (.bool r) ∧ Below w.heap.size w w' := by
 have hu29 := Try.underlying29
 have hu36 := Try.underlying36
 have HR0_0 := Aside0.mk hr0_0
 have HC0_0 := Aside0.mk hc0_0
 clear hr0_0 hc0_0
 have HR0_1 := Aside0.mk hr0_1
 have HC0_1 := Aside0.mk hc0_1
 clear hr0_1 hc0_1
 have HB := Aside0.mk (Below.refl w.heap.size w)
 have H : ((meanderlaw09_shown.f k).bind fun t199 => ((meanderlaw09_few.f l0_0 l0_1).bind fun bt200 => ((valid_Graph.f k bt200.1 bt200.2).bind fun t206 => (if t206 = 0 then (if a1 < 0 then (meanderlaw09_ValidNumbers_Num0.j0 k a1 a2 t199 true bt200.1 bt200.2) else (meanderlaw09_ValidNumbers_Num0.j0 k a1 a2 t199 (decide (a1 ≥ (bt200.1.length : Int))) bt200.1 bt200.2)) else (meanderlaw09_ValidNumbers_Num0.j0 k a1 a2 t199 true bt200.1 bt200.2))))) = some r := h
 clear h
 replace H := Option.bind_eq_some_iff.mp H
 obtain ⟨t199, A40, H⟩ := H
 replace H : ((meanderlaw09_few.f l0_0 l0_1).bind fun bt200 => ((valid_Graph.f k bt200.1 bt200.2).bind fun t206 => (if t206 = 0 then (if a1 < 0 then (meanderlaw09_ValidNumbers_Num0.j0 k a1 a2 t199 true bt200.1 bt200.2) else (meanderlaw09_ValidNumbers_Num0.j0 k a1 a2 t199 (decide (a1 ≥ (bt200.1.length : Int))) bt200.1 bt200.2)) else (meanderlaw09_ValidNumbers_Num0.j0 k a1 a2 t199 true bt200.1 bt200.2)))) = some r := H
 have A4 := Aside0.mk A40
 clear A40
 replace H := Option.bind_eq_some_iff.mp H
 obtain ⟨⟨t200, t203⟩, A50, H⟩ := H
 replace H : ((valid_Graph.f k t200 t203).bind fun t206 => (if t206 = 0 then (if a1 < 0 then (meanderlaw09_ValidNumbers_Num0.j0 k a1 a2 t199 true t200 t203) else (meanderlaw09_ValidNumbers_Num0.j0 k a1 a2 t199 (decide (a1 ≥ (t200.length : Int))) t200 t203)) else (meanderlaw09_ValidNumbers_Num0.j0 k a1 a2 t199 true t200 t203))) = some r := H
 have A5 := Aside0.mk A50
 clear A50
 have HC6 := Aside0.mk H
 clear H
 go_enter Try.func7, Try.ntmps7
 go_upto_region 3 with (first | ((with_reducible refine gate_dst (N := 3) rfl ?_); (try (refine gate_guard (by rfl) ?_; dsimp only)); refine box_event ?hg (N := 3) ?hd (cs := #[.slice A0_0 l0_0.length c0_0, .slice A0_1 l0_1.length c0_1]) (t := 29) ?hr ?_; (case hd => rfl); (case hg => rfl); (case hr => first | (go_simp; done) | (go_simp; rfl)); intro gb198 hg w7 hbox hb; have n0_ := Aside0.mk (below_step (by repeat (first | (with_reducible first | exact HB.out | apply below_alloc | apply pw_below_drewN | apply below_drew1) | exact HB.out)) hb); have n1_ := Aside0.mk (hbox); have n2_ := Aside0.mk ((by rw [hg]; exact (below_size (by repeat (first | (with_reducible first | exact HB.out | apply below_alloc | apply pw_below_drewN | apply below_drew1) | exact HB.out))) : w.heap.size ≤ gb198)); have n3_ := Aside0.mk ((by rw [hg]; exact (below_size (by repeat (first | (with_reducible first | exact HB.out | apply below_alloc | apply pw_below_drewN | apply below_drew1) | exact HB.out))) : w.heap.size ≤ gb198)); clear HB; have HB := n0_; have BK198 := n1_; have GW198 := n2_; have GE198 := n3_; clear n0_ n1_ n2_ n3_; clear hb hbox hg) | ((with_reducible refine gate_callee (f := 9) rfl ?_); refine goesL_ (some 11) rfl rfl Try.func9 (by kernel_rfl) rfl #[] rfl (by (try simp only [List.map_toArray, List.map_cons, List.map_nil]); first | done | rfl | (simp only [List.length_drop, List.length_take]; rfl)) ?_; (with_reducible refine (meanderlaw09_shown.calls k  t199 _ A4.out).mono ?_); rintro e w8 ⟨rfl, hb⟩; refine ⟨_, rfl, ?_⟩; have n0_ := Aside0.mk (blk_below (g := gb198) (o := .cells #[.slice A0_0 l0_0.length c0_0, .slice A0_1 l0_1.length c0_1] 29 (0, 0)) (by (with_reducible repeat (first | refine blk_drewN ?_ _ | refine blk_drew ?_ | refine blk_alloc ?_ _)); exact BK198.out) hb); have n1_ := Aside0.mk (below_step (by repeat (first | (with_reducible first | exact HB.out | apply below_alloc | apply pw_below_drewN | apply below_drew1 | refine below_set ?_ GE198.out) | exact HB.out)) hb); clear BK198; clear HB; have BK198 := n0_; have HB := n1_; clear n0_ n1_; (try clear hb); (try clear hb2); (try clear hk); (try clear hi); have hcz9_0 : w8.cell? ⟨gb198, 0, none⟩ = some (.slice A0_0 l0_0.length c0_0) := (blk_cell BK198.out 0).trans rfl; have hcz9_1 : w8.cell? ⟨gb198, 1, none⟩ = some (.slice A0_1 l0_1.length c0_1) := (blk_cell BK198.out 1).trans rfl; have hfz9_0 := blk_frozen BK198.out 0; have hfz9_1 := blk_frozen BK198.out 1) | ((with_reducible refine gate_callee (f := 12) rfl ?_); refine goesL_ (some 13) rfl rfl Try.func12 (by kernel_rfl) rfl #[.agg #[.slice A0_0 l0_0.length c0_0, .slice A0_1 l0_1.length c0_1]] rfl (by (try simp only [List.map_toArray, List.map_cons, List.map_nil]); first | done | rfl | (simp only [List.length_drop, List.length_take]; rfl)) ?_; (with_reducible refine (meanderlaw09_few.calls (fun k_ => k_ < w.heap.size) _ _ l0_0 (fun k_ => k_ < w.heap.size) _ _ l0_1 t200 t203 _ ?side1 ?side2 A5.out).mono ?_); (case side1 => exact Kd.V_mk HC0_0.out (Kd.F_below (Kd.C_F k23_heap HR0_0.out) (by repeat (first | (with_reducible first | exact HB.out | apply below_alloc | apply pw_below_drewN | apply below_drew1 | refine below_set ?_ GE198.out) | exact HB.out)))); (case side2 => exact Kd.V_mk HC0_1.out (Kd.F_below (Kd.C_F k36_heap HR0_1.out) (by repeat (first | (with_reducible first | exact HB.out | apply below_alloc | apply pw_below_drewN | apply below_drew1 | refine below_set ?_ GE198.out) | exact HB.out)))); rintro e w10 ⟨v201, v204, rfl, ho0, ho1, hb⟩; refine ⟨_, rfl, ?_⟩; have n0_ := Aside0.mk (Kd.V_lower (Kd.V_mono (ok' := fun k_ => k_ ≠ gb198) ho0 (fun k_ hk_ => Or.elim hk_ (fun hs_ => Or.elim hs_ (fun hs_ => fun e_ => Nat.not_le.2 hs_ (by rw [e_]; exact GW198.out)) (fun hs_ => fun e_ => Nat.not_le.2 hs_ (by rw [e_]; exact GW198.out))) (fun hn_ => (Kd.freshB (g := gb198) (o := .cells #[.slice A0_0 l0_0.length c0_0, .slice A0_1 l0_1.length c0_1] 29 (0, 0)) (by (with_reducible repeat (first | refine blk_drewN ?_ _ | refine blk_drew ?_ | refine blk_alloc ?_ _)); exact BK198.out) k_ hn_)))) (below_size (by repeat (first | (with_reducible first | exact HB.out | apply below_alloc | apply pw_below_drewN | apply below_drew1 | refine below_set ?_ GE198.out) | exact HB.out)))); have n1_ := Aside0.mk (Kd.V_lower (Kd.V_mono (ok' := fun k_ => k_ ≠ gb198) ho1 (fun k_ hk_ => Or.elim hk_ (fun hs_ => Or.elim hs_ (fun hs_ => fun e_ => Nat.not_le.2 hs_ (by rw [e_]; exact GW198.out)) (fun hs_ => fun e_ => Nat.not_le.2 hs_ (by rw [e_]; exact GW198.out))) (fun hn_ => (Kd.freshB (g := gb198) (o := .cells #[.slice A0_0 l0_0.length c0_0, .slice A0_1 l0_1.length c0_1] 29 (0, 0)) (by (with_reducible repeat (first | refine blk_drewN ?_ _ | refine blk_drew ?_ | refine blk_alloc ?_ _)); exact BK198.out) k_ hn_)))) (below_size (by repeat (first | (with_reducible first | exact HB.out | apply below_alloc | apply pw_below_drewN | apply below_drew1 | refine below_set ?_ GE198.out) | exact HB.out)))); have n2_ := Aside0.mk (blk_below (g := gb198) (o := .cells #[.slice A0_0 l0_0.length c0_0, .slice A0_1 l0_1.length c0_1] 29 (0, 0)) (by (with_reducible repeat (first | refine blk_drewN ?_ _ | refine blk_drew ?_ | refine blk_alloc ?_ _)); exact BK198.out) hb); have n3_ := Aside0.mk (below_step (by repeat (first | (with_reducible first | exact HB.out | apply below_alloc | apply pw_below_drewN | apply below_drew1 | refine below_set ?_ GE198.out) | exact HB.out)) hb); clear BK198; clear HB; have HO202 := n0_; have HO205 := n1_; have BK198 := n2_; have HB := n3_; clear n0_ n1_ n2_ n3_; (try clear hb); (try clear hb2); (try clear hk); (try clear hi); (try clear ho0); (try clear ho1); obtain ⟨Ao11, co11, eo11⟩ := Kd.V_slice HO202.out; subst eo11; have hcz12_0 : w10.cell? ⟨gb198, 0, none⟩ = some (.slice A0_0 l0_0.length c0_0) := (blk_cell BK198.out 0).trans rfl; have hcz12_1 : w10.cell? ⟨gb198, 1, none⟩ = some (.slice A0_1 l0_1.length c0_1) := (blk_cell BK198.out 1).trans rfl; have hfz12_0 := blk_frozen BK198.out 0; have hfz12_1 := blk_frozen BK198.out 1; obtain ⟨Ao13, co13, eo13⟩ := Kd.V_slice HO205.out; subst eo13))
 (try simp only [Act.put, List.setIfInBounds_toArray, List.set_cons_zero, List.set_cons_succ])
 go_cut [27] (fun v27 wc => ∃ (kq : Nat) (x27_5 : Bool), v27 = .bool x27_5 ∧ Aside0 (meanderlaw09_ValidNumbers_Num0.j0 kq a1 a2 t199 x27_5 t200 t203 = some r) ∧ Aside0 (kq ≤ k) ∧ Aside0 (Kd.V k23 23 wc w.heap.size (fun k_ => k_ ≠ gb198) (.slice Ao11 t200.length co11) t200) ∧ Aside0 (Kd.V k36 36 wc w.heap.size (fun k_ => k_ ≠ gb198) (.slice Ao13 t203.length co13) t203) ∧ Aside0 (wc.heap[gb198]? = some (.cells #[(.slice Ao11 t200.length co11), (.slice Ao13 t203.length co13)] 29 (0, 0))) ∧ Aside0 (Below w.heap.size w wc))
 case first =>
  have H := HC6.out
  clear HC6
  replace H := Option.bind_eq_some_iff.mp H
  obtain ⟨t206, A140, H⟩ := H
  replace H : (if t206 = 0 then (if a1 < 0 then (meanderlaw09_ValidNumbers_Num0.j0 k a1 a2 t199 true t200 t203) else (meanderlaw09_ValidNumbers_Num0.j0 k a1 a2 t199 (decide (a1 ≥ (t200.length : Int))) t200 t203)) else (meanderlaw09_ValidNumbers_Num0.j0 k a1 a2 t199 true t200 t203)) = some r := H
  have A14 := Aside0.mk A140
  clear A140
  by_cases c15 : t206 = 0
  ·rw [if_pos c15] at H
   have c15b0 : (t206 == 0) = true := beq_iff_eq.mpr c15
   have c15b1 : (t206 != 0) = false := bne_eq_false_iff_eq.mpr c15
   clear c15
   (first | rw [c15b0] | (simp only [i64_w, i32_w]; rw [c15b0]) | skip)
   by_cases c16 : a1 < 0
   ·rw [if_pos c16] at H
    have c16b0 : decide (a1 < 0) = true := decide_eq_true c16
    clear c16
    have H' := Aside0.mk H
    clear H
    have hcz17_0 : w10.cell? ⟨gb198, 0, none⟩ = some (.slice A0_0 l0_0.length c0_0) := (blk_cell BK198.out 0).trans rfl
    have hcz17_1 : w10.cell? ⟨gb198, 1, none⟩ = some (.slice A0_1 l0_1.length c0_1) := (blk_cell BK198.out 1).trans rfl
    have hfz17_0 := blk_frozen BK198.out 0
    have hfz17_1 := blk_frozen BK198.out 1
    go_wp2_with (first | ((with_reducible refine gate_callee (f := 13) rfl ?_); refine goesL_ (some 15) rfl rfl Try.func13 (by kernel_rfl) rfl #[.agg #[.slice Ao11 t200.length co11, .slice Ao13 t203.length co13]] rfl (by (try simp only [List.map_toArray, List.map_cons, List.map_nil]); first | done | rfl | (simp only [List.length_drop, List.length_take]; rfl)) ?_; (with_reducible refine (valid_Graph.calls k _ _ t200 _ _ t203 t206 _ ?side1 ?side2 ?side3 ?side4 A14.out).mono ?_); (case side1 => refine (Kd.V_reads' (e := 23) (base := w.heap.size) (ok := fun k_ => k_ ≠ gb198) (n := t200.length) (c := co11) ?_).2.2; exact (by (with_reducible repeat (first | apply Kd.V_alloc | apply Kd.V_drewN | apply Kd.V_drew)); exact (Kd.V_mono (Kd.V_far (p := ⟨gb198, 1, none⟩) (Kd.V_far (p := ⟨gb198, 0, none⟩) (Kd.V_mono HO202.out (fun k_ hk => (⟨hk, hk⟩ : _ ∧ k_ ≠ gb198))) (fun _ hk => hk.2) (.slice Ao11 t200.length co11)) (fun _ hk => hk.2) (.slice Ao13 t203.length co13)) (fun _ h_ => h_.1)))); (case side2 => exact (Kd.V_reads' HO202.out).2.1); (case side3 => refine (Kd.V_reads' (e := 36) (base := w.heap.size) (ok := fun k_ => k_ ≠ gb198) (n := t203.length) (c := co13) ?_).2.2; exact (by (with_reducible repeat (first | apply Kd.V_alloc | apply Kd.V_drewN | apply Kd.V_drew)); exact (Kd.V_mono (Kd.V_far (p := ⟨gb198, 1, none⟩) (Kd.V_far (p := ⟨gb198, 0, none⟩) (Kd.V_mono HO205.out (fun k_ hk => (⟨hk, hk⟩ : _ ∧ k_ ≠ gb198))) (fun _ hk => hk.2) (.slice Ao11 t200.length co11)) (fun _ hk => hk.2) (.slice Ao13 t203.length co13)) (fun _ h_ => h_.1)))); (case side4 => exact (Kd.V_reads' HO205.out).2.1); rintro e w18 ⟨rfl, hb⟩; refine ⟨_, rfl, ?_⟩; have n0_ := Aside0.mk (Kd.V_below (by (with_reducible repeat (first | apply Kd.V_alloc | apply Kd.V_drewN | apply Kd.V_drew)); exact (Kd.V_mono (Kd.V_far (p := ⟨gb198, 1, none⟩) (Kd.V_far (p := ⟨gb198, 0, none⟩) (Kd.V_mono HO202.out (fun k_ hk => (⟨hk, hk⟩ : _ ∧ k_ ≠ gb198))) (fun _ hk => hk.2) (.slice Ao11 t200.length co11)) (fun _ hk => hk.2) (.slice Ao13 t203.length co13)) (fun _ h_ => h_.1))) hb); have n1_ := Aside0.mk (Kd.V_below (by (with_reducible repeat (first | apply Kd.V_alloc | apply Kd.V_drewN | apply Kd.V_drew)); exact (Kd.V_mono (Kd.V_far (p := ⟨gb198, 1, none⟩) (Kd.V_far (p := ⟨gb198, 0, none⟩) (Kd.V_mono HO205.out (fun k_ hk => (⟨hk, hk⟩ : _ ∧ k_ ≠ gb198))) (fun _ hk => hk.2) (.slice Ao11 t200.length co11)) (fun _ hk => hk.2) (.slice Ao13 t203.length co13)) (fun _ h_ => h_.1))) hb); have n2_ := Aside0.mk (blk_below (g := gb198) (o := .cells #[.slice Ao11 t200.length co11, .slice Ao13 t203.length co13] 29 (0, 0)) (by (with_reducible repeat (first | refine blk_drewN ?_ _ | refine blk_drew ?_ | refine blk_alloc ?_ _)); refine blk_put (cs := #[.slice Ao11 t200.length co11, .slice A0_1 l0_1.length c0_1]) ?_ 1 _ rfl; (with_reducible repeat (first | refine blk_drewN ?_ _ | refine blk_drew ?_ | refine blk_alloc ?_ _)); refine blk_put (cs := #[.slice A0_0 l0_0.length c0_0, .slice A0_1 l0_1.length c0_1]) ?_ 0 _ rfl; (with_reducible repeat (first | refine blk_drewN ?_ _ | refine blk_drew ?_ | refine blk_alloc ?_ _)); exact BK198.out) hb); have n3_ := Aside0.mk (below_step (by repeat (first | (with_reducible first | exact HB.out | apply below_alloc | apply pw_below_drewN | apply below_drew1 | refine below_set ?_ GE198.out) | exact HB.out)) hb); clear HO202; clear HO205; clear BK198; clear HB; have HO202 := n0_; have HO205 := n1_; have BK198 := n2_; have HB := n3_; clear n0_ n1_ n2_ n3_; (try clear hb); (try clear hb2); (try clear hk); (try clear hi)))
    go_meet
    case rel => exact ⟨_, (true), (by first | rfl | (simp; done) | (simp [*]; done)), H', ⟨by first | omega | exact Nat.le_refl _⟩, ⟨by (with_reducible repeat (first | apply Kd.V_alloc | apply Kd.V_drewN | apply Kd.V_drew)); exact HO202.out⟩, ⟨by (with_reducible repeat (first | apply Kd.V_alloc | apply Kd.V_drewN | apply Kd.V_drew)); exact HO205.out⟩, ⟨by (with_reducible repeat (first | refine blk_drewN ?_ _ | refine blk_drew ?_ | refine blk_alloc ?_ _)); exact BK198.out⟩, ⟨by repeat (first | (with_reducible first | exact HB.out | apply below_alloc | apply pw_below_drewN | apply below_drew1 | refine below_set ?_ GE198.out) | exact HB.out)⟩⟩
   ·rw [if_neg c16] at H
    have c16b0 : decide (a1 < 0) = false := decide_eq_false c16
    clear c16
    have H' := Aside0.mk H
    clear H
    have hcz19_0 : w10.cell? ⟨gb198, 0, none⟩ = some (.slice A0_0 l0_0.length c0_0) := (blk_cell BK198.out 0).trans rfl
    have hcz19_1 : w10.cell? ⟨gb198, 1, none⟩ = some (.slice A0_1 l0_1.length c0_1) := (blk_cell BK198.out 1).trans rfl
    have hfz19_0 := blk_frozen BK198.out 0
    have hfz19_1 := blk_frozen BK198.out 1
    go_wp2_with (first | ((with_reducible refine gate_callee (f := 13) rfl ?_); refine goesL_ (some 15) rfl rfl Try.func13 (by kernel_rfl) rfl #[.agg #[.slice Ao11 t200.length co11, .slice Ao13 t203.length co13]] rfl (by (try simp only [List.map_toArray, List.map_cons, List.map_nil]); first | done | rfl | (simp only [List.length_drop, List.length_take]; rfl)) ?_; (with_reducible refine (valid_Graph.calls k _ _ t200 _ _ t203 t206 _ ?side1 ?side2 ?side3 ?side4 A14.out).mono ?_); (case side1 => refine (Kd.V_reads' (e := 23) (base := w.heap.size) (ok := fun k_ => k_ ≠ gb198) (n := t200.length) (c := co11) ?_).2.2; exact (by (with_reducible repeat (first | apply Kd.V_alloc | apply Kd.V_drewN | apply Kd.V_drew)); exact (Kd.V_mono (Kd.V_far (p := ⟨gb198, 1, none⟩) (Kd.V_far (p := ⟨gb198, 0, none⟩) (Kd.V_mono HO202.out (fun k_ hk => (⟨hk, hk⟩ : _ ∧ k_ ≠ gb198))) (fun _ hk => hk.2) (.slice Ao11 t200.length co11)) (fun _ hk => hk.2) (.slice Ao13 t203.length co13)) (fun _ h_ => h_.1)))); (case side2 => exact (Kd.V_reads' HO202.out).2.1); (case side3 => refine (Kd.V_reads' (e := 36) (base := w.heap.size) (ok := fun k_ => k_ ≠ gb198) (n := t203.length) (c := co13) ?_).2.2; exact (by (with_reducible repeat (first | apply Kd.V_alloc | apply Kd.V_drewN | apply Kd.V_drew)); exact (Kd.V_mono (Kd.V_far (p := ⟨gb198, 1, none⟩) (Kd.V_far (p := ⟨gb198, 0, none⟩) (Kd.V_mono HO205.out (fun k_ hk => (⟨hk, hk⟩ : _ ∧ k_ ≠ gb198))) (fun _ hk => hk.2) (.slice Ao11 t200.length co11)) (fun _ hk => hk.2) (.slice Ao13 t203.length co13)) (fun _ h_ => h_.1)))); (case side4 => exact (Kd.V_reads' HO205.out).2.1); rintro e w20 ⟨rfl, hb⟩; refine ⟨_, rfl, ?_⟩; have n0_ := Aside0.mk (Kd.V_below (by (with_reducible repeat (first | apply Kd.V_alloc | apply Kd.V_drewN | apply Kd.V_drew)); exact (Kd.V_mono (Kd.V_far (p := ⟨gb198, 1, none⟩) (Kd.V_far (p := ⟨gb198, 0, none⟩) (Kd.V_mono HO202.out (fun k_ hk => (⟨hk, hk⟩ : _ ∧ k_ ≠ gb198))) (fun _ hk => hk.2) (.slice Ao11 t200.length co11)) (fun _ hk => hk.2) (.slice Ao13 t203.length co13)) (fun _ h_ => h_.1))) hb); have n1_ := Aside0.mk (Kd.V_below (by (with_reducible repeat (first | apply Kd.V_alloc | apply Kd.V_drewN | apply Kd.V_drew)); exact (Kd.V_mono (Kd.V_far (p := ⟨gb198, 1, none⟩) (Kd.V_far (p := ⟨gb198, 0, none⟩) (Kd.V_mono HO205.out (fun k_ hk => (⟨hk, hk⟩ : _ ∧ k_ ≠ gb198))) (fun _ hk => hk.2) (.slice Ao11 t200.length co11)) (fun _ hk => hk.2) (.slice Ao13 t203.length co13)) (fun _ h_ => h_.1))) hb); have n2_ := Aside0.mk (blk_below (g := gb198) (o := .cells #[.slice Ao11 t200.length co11, .slice Ao13 t203.length co13] 29 (0, 0)) (by (with_reducible repeat (first | refine blk_drewN ?_ _ | refine blk_drew ?_ | refine blk_alloc ?_ _)); refine blk_put (cs := #[.slice Ao11 t200.length co11, .slice A0_1 l0_1.length c0_1]) ?_ 1 _ rfl; (with_reducible repeat (first | refine blk_drewN ?_ _ | refine blk_drew ?_ | refine blk_alloc ?_ _)); refine blk_put (cs := #[.slice A0_0 l0_0.length c0_0, .slice A0_1 l0_1.length c0_1]) ?_ 0 _ rfl; (with_reducible repeat (first | refine blk_drewN ?_ _ | refine blk_drew ?_ | refine blk_alloc ?_ _)); exact BK198.out) hb); have n3_ := Aside0.mk (below_step (by repeat (first | (with_reducible first | exact HB.out | apply below_alloc | apply pw_below_drewN | apply below_drew1 | refine below_set ?_ GE198.out) | exact HB.out)) hb); clear HO202; clear HO205; clear BK198; clear HB; have HO202 := n0_; have HO205 := n1_; have BK198 := n2_; have HB := n3_; clear n0_ n1_ n2_ n3_; (try clear hb); (try clear hb2); (try clear hk); (try clear hi); have hcz21_0 : w20.cell? ⟨gb198, 0, none⟩ = some (.slice Ao11 t200.length co11) := (blk_cell BK198.out 0).trans rfl; have hcz21_1 : w20.cell? ⟨gb198, 1, none⟩ = some (.slice Ao13 t203.length co13) := (blk_cell BK198.out 1).trans rfl; have hfz21_0 := blk_frozen BK198.out 0; have hfz21_1 := blk_frozen BK198.out 1))
    go_meet
    case rel => exact ⟨_, (decide (a1 ≥ (t200.length : Int))), (by first | rfl | (simp; done) | (simp [*]; done)), H', ⟨by first | omega | exact Nat.le_refl _⟩, ⟨by (with_reducible repeat (first | apply Kd.V_alloc | apply Kd.V_drewN | apply Kd.V_drew)); exact HO202.out⟩, ⟨by (with_reducible repeat (first | apply Kd.V_alloc | apply Kd.V_drewN | apply Kd.V_drew)); exact HO205.out⟩, ⟨by (with_reducible repeat (first | refine blk_drewN ?_ _ | refine blk_drew ?_ | refine blk_alloc ?_ _)); exact BK198.out⟩, ⟨by repeat (first | (with_reducible first | exact HB.out | apply below_alloc | apply pw_below_drewN | apply below_drew1 | refine below_set ?_ GE198.out) | exact HB.out)⟩⟩
  ·rw [if_neg c15] at H
   have c15b0 : (t206 == 0) = false := beq_eq_false_iff_ne.mpr c15
   have c15b1 : (t206 != 0) = true := bne_iff_ne.mpr c15
   (first | rw [c15b0] | (simp only [i64_w, i32_w]; rw [c15b0]) | skip)
   have H' := Aside0.mk H
   clear H
   have hcz22_0 : w10.cell? ⟨gb198, 0, none⟩ = some (.slice A0_0 l0_0.length c0_0) := (blk_cell BK198.out 0).trans rfl
   have hcz22_1 : w10.cell? ⟨gb198, 1, none⟩ = some (.slice A0_1 l0_1.length c0_1) := (blk_cell BK198.out 1).trans rfl
   have hfz22_0 := blk_frozen BK198.out 0
   have hfz22_1 := blk_frozen BK198.out 1
   go_wp2_with (first | ((with_reducible refine gate_callee (f := 13) rfl ?_); refine goesL_ (some 15) rfl rfl Try.func13 (by kernel_rfl) rfl #[.agg #[.slice Ao11 t200.length co11, .slice Ao13 t203.length co13]] rfl (by (try simp only [List.map_toArray, List.map_cons, List.map_nil]); first | done | rfl | (simp only [List.length_drop, List.length_take]; rfl)) ?_; (with_reducible refine (valid_Graph.calls k _ _ t200 _ _ t203 t206 _ ?side1 ?side2 ?side3 ?side4 A14.out).mono ?_); (case side1 => refine (Kd.V_reads' (e := 23) (base := w.heap.size) (ok := fun k_ => k_ ≠ gb198) (n := t200.length) (c := co11) ?_).2.2; exact (by (with_reducible repeat (first | apply Kd.V_alloc | apply Kd.V_drewN | apply Kd.V_drew)); exact (Kd.V_mono (Kd.V_far (p := ⟨gb198, 1, none⟩) (Kd.V_far (p := ⟨gb198, 0, none⟩) (Kd.V_mono HO202.out (fun k_ hk => (⟨hk, hk⟩ : _ ∧ k_ ≠ gb198))) (fun _ hk => hk.2) (.slice Ao11 t200.length co11)) (fun _ hk => hk.2) (.slice Ao13 t203.length co13)) (fun _ h_ => h_.1)))); (case side2 => exact (Kd.V_reads' HO202.out).2.1); (case side3 => refine (Kd.V_reads' (e := 36) (base := w.heap.size) (ok := fun k_ => k_ ≠ gb198) (n := t203.length) (c := co13) ?_).2.2; exact (by (with_reducible repeat (first | apply Kd.V_alloc | apply Kd.V_drewN | apply Kd.V_drew)); exact (Kd.V_mono (Kd.V_far (p := ⟨gb198, 1, none⟩) (Kd.V_far (p := ⟨gb198, 0, none⟩) (Kd.V_mono HO205.out (fun k_ hk => (⟨hk, hk⟩ : _ ∧ k_ ≠ gb198))) (fun _ hk => hk.2) (.slice Ao11 t200.length co11)) (fun _ hk => hk.2) (.slice Ao13 t203.length co13)) (fun _ h_ => h_.1)))); (case side4 => exact (Kd.V_reads' HO205.out).2.1); rintro e w23 ⟨rfl, hb⟩; refine ⟨_, rfl, ?_⟩; have n0_ := Aside0.mk (Kd.V_below (by (with_reducible repeat (first | apply Kd.V_alloc | apply Kd.V_drewN | apply Kd.V_drew)); exact (Kd.V_mono (Kd.V_far (p := ⟨gb198, 1, none⟩) (Kd.V_far (p := ⟨gb198, 0, none⟩) (Kd.V_mono HO202.out (fun k_ hk => (⟨hk, hk⟩ : _ ∧ k_ ≠ gb198))) (fun _ hk => hk.2) (.slice Ao11 t200.length co11)) (fun _ hk => hk.2) (.slice Ao13 t203.length co13)) (fun _ h_ => h_.1))) hb); have n1_ := Aside0.mk (Kd.V_below (by (with_reducible repeat (first | apply Kd.V_alloc | apply Kd.V_drewN | apply Kd.V_drew)); exact (Kd.V_mono (Kd.V_far (p := ⟨gb198, 1, none⟩) (Kd.V_far (p := ⟨gb198, 0, none⟩) (Kd.V_mono HO205.out (fun k_ hk => (⟨hk, hk⟩ : _ ∧ k_ ≠ gb198))) (fun _ hk => hk.2) (.slice Ao11 t200.length co11)) (fun _ hk => hk.2) (.slice Ao13 t203.length co13)) (fun _ h_ => h_.1))) hb); have n2_ := Aside0.mk (blk_below (g := gb198) (o := .cells #[.slice Ao11 t200.length co11, .slice Ao13 t203.length co13] 29 (0, 0)) (by (with_reducible repeat (first | refine blk_drewN ?_ _ | refine blk_drew ?_ | refine blk_alloc ?_ _)); refine blk_put (cs := #[.slice Ao11 t200.length co11, .slice A0_1 l0_1.length c0_1]) ?_ 1 _ rfl; (with_reducible repeat (first | refine blk_drewN ?_ _ | refine blk_drew ?_ | refine blk_alloc ?_ _)); refine blk_put (cs := #[.slice A0_0 l0_0.length c0_0, .slice A0_1 l0_1.length c0_1]) ?_ 0 _ rfl; (with_reducible repeat (first | refine blk_drewN ?_ _ | refine blk_drew ?_ | refine blk_alloc ?_ _)); exact BK198.out) hb); have n3_ := Aside0.mk (below_step (by repeat (first | (with_reducible first | exact HB.out | apply below_alloc | apply pw_below_drewN | apply below_drew1 | refine below_set ?_ GE198.out) | exact HB.out)) hb); clear HO202; clear HO205; clear BK198; clear HB; have HO202 := n0_; have HO205 := n1_; have BK198 := n2_; have HB := n3_; clear n0_ n1_ n2_ n3_; (try clear hb); (try clear hb2); (try clear hk); (try clear hi)))
   go_meet
   case rel => exact ⟨_, (true), (by first | rfl | (simp; done) | (simp [*]; done)), H', ⟨by first | omega | exact Nat.le_refl _⟩, ⟨by (with_reducible repeat (first | apply Kd.V_alloc | apply Kd.V_drewN | apply Kd.V_drew)); exact HO202.out⟩, ⟨by (with_reducible repeat (first | apply Kd.V_alloc | apply Kd.V_drewN | apply Kd.V_drew)); exact HO205.out⟩, ⟨by (with_reducible repeat (first | refine blk_drewN ?_ _ | refine blk_drew ?_ | refine blk_alloc ?_ _)); exact BK198.out⟩, ⟨by repeat (first | (with_reducible first | exact HB.out | apply below_alloc | apply pw_below_drewN | apply below_drew1 | refine below_set ?_ GE198.out) | exact HB.out)⟩⟩
 case rest =>
  clear HC6
  try clear c1
  try clear p2
  try clear c7
  try clear c9
  try clear c12
  try clear c13
  try clear c15
  try clear c15b0
  try clear c15b1
  try clear c16
  try clear c16b0
  try clear hcz12_0
  try clear hcz12_1
  try clear hcz17_0
  try clear hcz17_1
  try clear hcz19_0
  try clear hcz19_1
  try clear hcz21_0
  try clear hcz21_1
  try clear hcz22_0
  try clear hcz22_1
  try clear hcz9_0
  try clear hcz9_1
  try clear hfz12_0
  try clear hfz12_1
  try clear hfz17_0
  try clear hfz17_1
  try clear hfz19_0
  try clear hfz19_1
  try clear hfz21_0
  try clear hfz21_1
  try clear hfz22_0
  try clear hfz22_1
  try clear hfz9_0
  try clear hfz9_1
  obtain ⟨kq, x27_5, rfl, HA, HJ5, HO_199000, HO_199001, BK198, HB⟩ := hcut
  cases kq with
  | zero => exact absurd HA.out (by simp [meanderlaw09_ValidNumbers_Num0.j0])
  | succ kj5 =>
   have H := HA.out
   clear HA
   simp only [meanderlaw09_ValidNumbers_Num0.j0] at H
   by_cases c24 : x27_5 = true
   ·subst c24
    have H1 : (some t199) = some r := by rw [if_pos rfl] at H; exact H
    clear H
    have H := H1
    clear H1
    obtain rfl := Option.some.inj H
    go_wp2
    go_ret
    exact ⟨by first | rfl | (simp [errW_none, errW_some] <;> rfl) | (simp [*, errW_none, errW_some] <;> rfl), by repeat (first | (with_reducible first | exact HB.out | apply below_alloc | apply pw_below_drewN | apply below_drew1 | refine below_set ?_ GE198.out) | exact HB.out)⟩
   ·replace c24 := Bool.eq_false_iff.mpr c24
    subst c24
    have H1 : (meanderlaw09_ValidNumbers_Num0.l0 kj5 a1 a2 t199 (wrap64 ((t203.length : Int) - 1)) t200 t203 t200 ([] : List (S36))) = some r := by rw [if_neg (show ¬ (false = true) by decide)] at H; exact H
    clear H
    have H := H1
    clear H1
    have H' := Aside0.mk H
    clear H
    have hcz25_0 : wc.cell? ⟨gb198, 0, none⟩ = some (.slice Ao11 t200.length co11) := (blk_cell BK198.out 0).trans rfl
    have hcz25_1 : wc.cell? ⟨gb198, 1, none⟩ = some (.slice Ao13 t203.length co13) := (blk_cell BK198.out 1).trans rfl
    have hfz25_0 := blk_frozen BK198.out 0
    have hfz25_1 := blk_frozen BK198.out 1
    go_wp2_with (first | ((with_reducible refine gate_dst (N := 8) rfl ?_); (try (refine gate_guard (by rfl) ?_; dsimp only)); refine box_event ?hg (N := 8) ?hd (cs := #[.slice none 0 0, .slice none 0 0]) (t := 29) ?hr ?_; (case hd => rfl); (case hg => rfl); (case hr => first | (go_simp; done) | (go_simp; rfl)); intro gb207 hg w26 hbox hb; have n0_ := Aside0.mk (Kd.V_below (Kd.V_elderB (by (with_reducible repeat (first | apply Kd.V_alloc | apply Kd.V_drewN | apply Kd.V_drew)); exact HO_199000.out) gb207 (Nat.le_of_eq hg.symm)) hb); have n1_ := Aside0.mk (Kd.V_below (Kd.V_elderB (by (with_reducible repeat (first | apply Kd.V_alloc | apply Kd.V_drewN | apply Kd.V_drew)); exact HO_199001.out) gb207 (Nat.le_of_eq hg.symm)) hb); have n2_ := Aside0.mk (blk_below (g := gb198) (o := .cells #[.slice Ao11 t200.length co11, .slice Ao13 t203.length co13] 29 (0, 0)) (by (with_reducible repeat (first | refine blk_drewN ?_ _ | refine blk_drew ?_ | refine blk_alloc ?_ _)); exact BK198.out) hb); have n3_ := Aside0.mk (below_step (by repeat (first | (with_reducible first | exact HB.out | apply below_alloc | apply pw_below_drewN | apply below_drew1 | refine below_set ?_ GE198.out) | exact HB.out)) hb); have n4_ := Aside0.mk (hbox); have n5_ := Aside0.mk ((by rw [hg]; exact (below_size (by repeat (first | (with_reducible first | exact HB.out | apply below_alloc | apply pw_below_drewN | apply below_drew1 | refine below_set ?_ GE198.out) | exact HB.out))) : w.heap.size ≤ gb207)); have n6_ := Aside0.mk ((by rw [hg]; exact (below_size (by repeat (first | (with_reducible first | exact HB.out | apply below_alloc | apply pw_below_drewN | apply below_drew1 | refine below_set ?_ GE198.out) | exact HB.out))) : w.heap.size ≤ gb207)); have n7_ := Aside0.mk ((by rw [hg]; exact Nat.ne_of_lt (blk_lt (g := gb198) (o := .cells #[.slice Ao11 t200.length co11, .slice Ao13 t203.length co13] 29 (0, 0)) (by (with_reducible repeat (first | refine blk_drewN ?_ _ | refine blk_drew ?_ | refine blk_alloc ?_ _)); exact BK198.out)) : gb198 ≠ gb207)); have n8_ := Aside0.mk ((by rw [hg]; exact Nat.ne_of_gt (blk_lt (g := gb198) (o := .cells #[.slice Ao11 t200.length co11, .slice Ao13 t203.length co13] 29 (0, 0)) (by (with_reducible repeat (first | refine blk_drewN ?_ _ | refine blk_drew ?_ | refine blk_alloc ?_ _)); exact BK198.out)) : gb207 ≠ gb198)); clear HO_199000; clear HO_199001; clear BK198; clear HB; have HO_199000 := n0_; have HO_199001 := n1_; have BK198 := n2_; have HB := n3_; have BK207 := n4_; have GW207 := n5_; have GE207 := n6_; have NB198_207 := n7_; have NB207_198 := n8_; clear n0_ n1_ n2_ n3_ n4_ n5_ n6_ n7_ n8_; clear hb hbox hg; have hnb27 := NB207_198.out; have hnc27 := NB198_207.out; have hcz28_0 : w26.cell? ⟨gb207, 0, none⟩ = some (.slice none 0 0) := (blk_cell BK207.out 0).trans rfl; have hcz28_1 : w26.cell? ⟨gb207, 1, none⟩ = some (.slice none 0 0) := (blk_cell BK207.out 1).trans rfl; have hfz28_0 := blk_frozen BK207.out 0; have hfz28_1 := blk_frozen BK207.out 1; have hcz29_0 : w26.cell? ⟨gb198, 0, none⟩ = some (.slice Ao11 t200.length co11) := (blk_cell BK198.out 0).trans rfl; have hcz29_1 : w26.cell? ⟨gb198, 1, none⟩ = some (.slice Ao13 t203.length co13) := (blk_cell BK198.out 1).trans rfl; have hfz29_0 := blk_frozen BK198.out 0; have hfz29_1 := blk_frozen BK198.out 1))
    go_loopg [9] kj5 (fun kq v9 w' => ∃ (x9_2 : Int) (x208001_2 : List (S36)) (u208001 : Value), v9 = .int .i64 x9_2 ∧ Aside0 (meanderlaw09_ValidNumbers_Num0.l0 kq a1 a2 t199 x9_2 t200 t203 t200 x208001_2 = some r) ∧ Aside0 (kq ≤ kj5) ∧ Aside0 (Kd.V k23 23 w' w.heap.size (fun k_ => some k_ ≠ (u208001 : Value).ownBlock ∧ k_ ≠ gb198 ∧ k_ ≠ gb207) (.slice Ao11 t200.length co11) t200) ∧ Aside0 (Kd.V k36 36 w' w.heap.size (fun k_ => some k_ ≠ (u208001 : Value).ownBlock ∧ k_ ≠ gb198 ∧ k_ ≠ gb207) (.slice Ao13 t203.length co13) t203) ∧ Aside0 (Kd.V k23 23 w' w.heap.size (fun k_ => some k_ ≠ (u208001 : Value).ownBlock ∧ k_ ≠ gb198 ∧ k_ ≠ gb207) (.slice Ao11 t200.length co11) t200) ∧ Aside0 (Kd.R k36 36 w' w.heap.size (fun _ => True) u208001 x208001_2) ∧ Aside0 (w'.heap[gb198]? = some (.cells #[(.slice Ao11 t200.length co11), (.slice Ao13 t203.length co13)] 29 (0, 0))) ∧ Aside0 (w'.heap[gb207]? = some (.cells #[(.slice Ao11 t200.length co11), u208001] 29 (0, 0))) ∧ Aside0 (Below w.heap.size w w'))
    case atStart => exact ⟨(wrap64 ((t203.length : Int) - 1)), (([] : List (S36))), (.slice none 0 0), (by first | rfl | (simp; done) | (simp [*]; done)), H', ⟨Nat.le_refl _⟩, ⟨by (with_reducible repeat (first | apply Kd.V_alloc | apply Kd.V_drewN | apply Kd.V_drew)); exact Kd.V_mono (Kd.V_far (p := ⟨gb207, 1, none⟩) (Kd.V_far (p := ⟨gb207, 0, none⟩) (Kd.V_mono HO_199000.out (fun k_ hk => (⟨hk, hk.2⟩ : _ ∧ k_ ≠ gb207))) (fun _ hk => hk.2) (.slice Ao11 t200.length co11)) (fun _ hk => hk.2) (.slice none 0 0)) (fun _ hk => ⟨(by simp [Value.ownBlock]), ⟨hk.1.1, hk.1.2⟩⟩)⟩, ⟨by (with_reducible repeat (first | apply Kd.V_alloc | apply Kd.V_drewN | apply Kd.V_drew)); exact Kd.V_mono (Kd.V_far (p := ⟨gb207, 1, none⟩) (Kd.V_far (p := ⟨gb207, 0, none⟩) (Kd.V_mono HO_199001.out (fun k_ hk => (⟨hk, hk.2⟩ : _ ∧ k_ ≠ gb207))) (fun _ hk => hk.2) (.slice Ao11 t200.length co11)) (fun _ hk => hk.2) (.slice none 0 0)) (fun _ hk => ⟨(by simp [Value.ownBlock]), ⟨hk.1.1, hk.1.2⟩⟩)⟩, ⟨by (with_reducible repeat (first | apply Kd.V_alloc | apply Kd.V_drewN | apply Kd.V_drew)); exact Kd.V_mono (Kd.V_far (p := ⟨gb207, 1, none⟩) (Kd.V_far (p := ⟨gb207, 0, none⟩) (Kd.V_mono HO_199000.out (fun k_ hk => (⟨hk, hk.2⟩ : _ ∧ k_ ≠ gb207))) (fun _ hk => hk.2) (.slice Ao11 t200.length co11)) (fun _ hk => hk.2) (.slice none 0 0)) (fun _ hk => ⟨(by simp [Value.ownBlock]), ⟨hk.1.1, hk.1.2⟩⟩)⟩, ⟨by first | exact Kd.R_nil _ _ _ _ _ | exact Kd.N_nil _ _ _ _ _ | exact Kd.V_nil _ _ _ _ _ | exact Kd.Q_nil _ _ _ _ _ | exact Kd.S_nil _ _ _ _ _⟩, ⟨by (with_reducible repeat (first | refine blk_drewN ?_ _ | refine blk_drew ?_ | refine blk_alloc ?_ _)); refine blk_far ?_ NB198_207.out _; (with_reducible repeat (first | refine blk_drewN ?_ _ | refine blk_drew ?_ | refine blk_alloc ?_ _)); refine blk_far ?_ NB198_207.out _; (with_reducible repeat (first | refine blk_drewN ?_ _ | refine blk_drew ?_ | refine blk_alloc ?_ _)); exact BK198.out⟩, ⟨by (with_reducible repeat (first | refine blk_drewN ?_ _ | refine blk_drew ?_ | refine blk_alloc ?_ _)); refine blk_put (cs := #[.slice Ao11 t200.length co11, .slice none 0 0]) ?_ 1 _ rfl; (with_reducible repeat (first | refine blk_drewN ?_ _ | refine blk_drew ?_ | refine blk_alloc ?_ _)); refine blk_put (cs := #[.slice none 0 0, .slice none 0 0]) ?_ 0 _ rfl; (with_reducible repeat (first | refine blk_drewN ?_ _ | refine blk_drew ?_ | refine blk_alloc ?_ _)); exact BK207.out⟩, ⟨by repeat (first | (with_reducible first | exact HB.out | apply below_alloc | apply pw_below_drewN | apply below_drew1 | refine below_set ?_ GE198.out | refine below_set ?_ GE207.out) | exact HB.out)⟩⟩
    case round =>
     clear H'
     try clear c1
     try clear c2
     try clear p2
     try clear p6
     try clear c7
     try clear c9
     try clear c12
     try clear c13
     try clear c15
     try clear c15b0
     try clear c15b1
     try clear c16
     try clear c16b0
     try clear c24
     try clear c27
     try clear hcz12_0
     try clear hcz12_1
     try clear hcz17_0
     try clear hcz17_1
     try clear hcz19_0
     try clear hcz19_1
     try clear hcz21_0
     try clear hcz21_1
     try clear hcz22_0
     try clear hcz22_1
     try clear hcz25_0
     try clear hcz25_1
     try clear hcz28_0
     try clear hcz28_1
     try clear hcz29_0
     try clear hcz29_1
     try clear hcz9_0
     try clear hcz9_1
     try clear hfz12_0
     try clear hfz12_1
     try clear hfz17_0
     try clear hfz17_1
     try clear hfz19_0
     try clear hfz19_1
     try clear hfz21_0
     try clear hfz21_1
     try clear hfz22_0
     try clear hfz22_1
     try clear hfz25_0
     try clear hfz25_1
     try clear hfz28_0
     try clear hfz28_1
     try clear hfz29_0
     try clear hfz29_1
     try clear hfz9_0
     try clear hfz9_1
     try clear p2
     obtain ⟨x9_2, x208001_2, u208001, rfl, HA, HK2, HO_199000, HO_199001, HO_208000, HO_208001, BK198, BK207, HB⟩ := hrel
     cases gk with
     | zero => exact absurd HA.out (by simp [meanderlaw09_ValidNumbers_Num0.l0])
     | succ k2 =>
      have H := HA.out
      clear HA
      simp only [meanderlaw09_ValidNumbers_Num0.l0] at H
      by_cases c30 : x9_2 ≥ 0
      ·rw [if_pos c30] at H
       have c30b0 : decide (0 ≤ x9_2) = true := decide_eq_true c30
       clear c30
       by_cases c31 : 0 ≤ x9_2
       ·rw [if_pos c31] at H
        have c31b0 : decide (0 ≤ x9_2) = true := decide_eq_true c31
        clear c31
        by_cases c32 : x9_2 < (t203.length : Int)
        ·rw [if_pos c32] at H
         have c32b0 : decide (x9_2 < (t203.length : Int)) = true := decide_eq_true c32
         clear c32
         by_cases c33 : x208001_2.length < 5864062014805
         ·rw [if_pos c33] at H
          have LMc33 := Aside0.mk c33
          clear c33
          obtain ⟨y209, hy209⟩ : ∃ y_ : List (S36), y_ = (x208001_2 ++ [(⟨(rd_T36 t203 x9_2).f0, (rd_T36 t203 x9_2).f1, (rd_T36 t203 x9_2).f2⟩ : S36)]) := ⟨_, rfl⟩
          replace H : (meanderlaw09_ValidNumbers_Num0.l0 k2 a1 a2 t199 (wrap64 (x9_2 - 1)) t200 t203 t200 y209) = some r := by first | (rw [hy209]; with_reducible exact H) | (have H2_ := (Option.bind_some _ _).symm.trans H; rw [hy209]; with_reducible exact H2_) | (have H2_ := (Option.bind_some _ _).symm.trans H; with_reducible exact H2_) | with_reducible exact H | (rw [hy209]; exact H) | exact H
          have Ny209 := Aside0.mk hy209
          clear hy209
          have H' := Aside0.mk H
          clear H
          try go_wp2
          have n0_ := Aside0.mk (Kd.V_drew HO_199000.out)
          have n1_ := Aside0.mk (Kd.V_drew HO_199001.out)
          have n2_ := Aside0.mk (Kd.V_drew HO_208000.out)
          have n3_ := Aside0.mk (Kd.R_drew HO_208001.out)
          have n4_ := Aside0.mk (blk_drew BK198.out)
          have n5_ := Aside0.mk (blk_drew BK207.out)
          have n6_ := Aside0.mk (below_drew1 HB.out)
          clear HO_199000
          clear HO_199001
          clear HO_208000
          clear HO_208001
          clear BK198
          clear BK207
          clear HB
          have HO_199000 := n0_
          have HO_199001 := n1_
          have HO_208000 := n2_
          have HO_208001 := n3_
          have BK198 := n4_
          have BK207 := n5_
          have HB := n6_
          clear n0_ n1_ n2_ n3_ n4_ n5_ n6_
          have p208 : 0 ≤ (x9_2 : Int) := of_decide_eq_true (by first | (with_reducible assumption) | assumption)
          have q208 : x9_2 < (t203.length : Int) := of_decide_eq_true (by first | (with_reducible assumption) | assumption)
          obtain ⟨ad208, e208, hx208_0, hx208_1, hx208_2⟩ := at_T36 (Kd.V_reads' HO_199001.out).2.2 x9_2 p208 q208
          cases e208
          replace p208 := eq_true p208
          replace q208 := eq_true q208
          refine start_ (n := 11) (S := fun w' => w'.cell? ⟨gb207, 0, none⟩ = some (.slice Ao11 t200.length co11) ∧ w'.cell? ⟨gb207, 1, none⟩ = some (u208001) ∧ w'.cell? ⟨gb198, 0, none⟩ = some (.slice Ao11 t200.length co11) ∧ w'.cell? ⟨gb198, 1, none⟩ = some (.slice (some ad208) t203.length co13) ∧ w'.cell? (ad208.add ((x9_2).toNat * 3)) = some (.int .i64 ((rd_T36 t203 x9_2).f0)) ∧ w'.cell? ⟨(ad208.add ((x9_2).toNat * 3)).block, (ad208.add ((x9_2).toNat * 3)).off + 1, none⟩ = some (.int .i64 ((rd_T36 t203 x9_2).f1)) ∧ w'.cell? ⟨(ad208.add ((x9_2).toNat * 3)).block, (ad208.add ((x9_2).toNat * 3)).off + 2, none⟩ = some (.int .i64 ((rd_T36 t203 x9_2).f2))) (ds := [8, 10]) #[false, false, false, false, false, false, false, false, false, false, false] (by kernel_rfl) rfl rfl ⟨(blk_cell BK207.out 0).trans rfl, (blk_cell BK207.out 1).trans rfl, (blk_cell BK198.out 0).trans rfl, (blk_cell BK198.out 1).trans rfl, hx208_0, hx208_1, hx208_2⟩ (fun hHeld => ?_); refine with_tabW meanderlaw09_ValidNumbers_Num0.tab9 meanderlaw09_ValidNumbers_Num0.bits9 (fun HT_ HW_ => ?_)
          generalize wr.drew = w34 at HO_199000 HO_199001 HO_208000 HO_208001 BK198 BK207 HB hx208_0 hx208_1 hx208_2 hHeld ⊢
          refine pure_ (i := 0) (N := some 40) (v := ?_) (a' := ?_) #[true, false, false, false, false, false, false, false, false, false, false] rfl rfl (any_of HT_.out (by kernel_rfl)) (fun _ _ _ h => h) (Or.inl ⟨by rfl, ?_⟩) ?_ ?_
          rotate_left
          ·intro w'
           go_simp
           with_reducible rfl
          rotate_left
          ·simp only [Act.put, List.setIfInBounds_toArray, List.set_cons_zero, List.set_cons_succ, i64_w, i32_w]
           rfl
          refine pure_ (i := 2) (N := some 42) (v := ?_) (a' := ?_) #[true, false, true, false, false, false, false, false, false, false, false] rfl rfl (any_of HT_.out (by kernel_rfl)) (fun _ _ _ h => h) (Or.inl ⟨by rfl, ?_⟩) ?_ ?_
          rotate_left
          ·intro w'
           go_simp
           with_reducible rfl
          rotate_left
          ·simp only [Act.put, List.setIfInBounds_toArray, List.set_cons_zero, List.set_cons_succ, i64_w, i32_w]
           rfl
          refine pure_ (i := 4) (N := some 44) (v := ?_) (a' := ?_) #[true, false, true, false, true, false, false, false, false, false, false] rfl rfl (any_of HT_.out (by kernel_rfl)) (fun _ _ _ h => h) (Or.inl ⟨by rfl, ?_⟩) ?_ ?_
          rotate_left
          ·intro w'
           go_simp
           with_reducible rfl
          rotate_left
          ·simp only [Act.put, List.setIfInBounds_toArray, List.set_cons_zero, List.set_cons_succ, i64_w, i32_w]
           rfl
          refine take_ (i := 1) (N := some 41) (v := ?_) (a' := ?_) #[true, true, true, false, true, false, false, false, false, false, false] rfl rfl (take_ofW HT_.out HW_.out (by kernel_rfl)) (fun _ _ _ h => h) (Or.inl ⟨by rfl, ?_⟩) hHeld ?_ ?_
          rotate_left
          ·rintro w' ⟨s0, s1, s2, s3, s4, s5, s6⟩
           go_simp
           with_reducible rfl
          rotate_left
          ·simp only [Act.put, List.setIfInBounds_toArray, List.set_cons_zero, List.set_cons_succ, i64_w, i32_w]
           rfl
          refine take_ (i := 3) (N := some 43) (v := ?_) (a' := ?_) #[true, true, true, true, true, false, false, false, false, false, false] rfl rfl (take_ofW HT_.out HW_.out (by kernel_rfl)) (fun _ _ _ h => h) (Or.inl ⟨by rfl, ?_⟩) hHeld ?_ ?_
          rotate_left
          ·rintro w' ⟨s0, s1, s2, s3, s4, s5, s6⟩
           go_simp
           with_reducible rfl
          rotate_left
          ·simp only [Act.put, List.setIfInBounds_toArray, List.set_cons_zero, List.set_cons_succ, i64_w, i32_w]
           rfl
          refine pure_ (i := 5) (N := some 45) (v := ?_) (a' := ?_) #[true, true, true, true, true, true, false, false, false, false, false] rfl rfl (any_of HT_.out (by kernel_rfl)) (fun _ _ _ h => h) (Or.inl ⟨by rfl, ?_⟩) ?_ ?_
          rotate_left
          ·intro w'
           go_simp
           with_reducible rfl
          rotate_left
          ·simp only [Act.put, List.setIfInBounds_toArray, List.set_cons_zero, List.set_cons_succ, i64_w, i32_w]
           rfl
          refine take_ (i := 6) (N := some 46) (v := ?_) (a' := ?_) #[true, true, true, true, true, true, true, false, false, false, false] rfl rfl (take_ofW HT_.out HW_.out (by kernel_rfl)) (fun _ _ _ h => h) (Or.inl ⟨by rfl, ?_⟩) hHeld ?_ ?_
          rotate_left
          ·rintro w' ⟨s0, s1, s2, s3, s4, s5, s6⟩
           go_simp
           with_reducible rfl
          rotate_left
          ·simp only [Act.put, List.setIfInBounds_toArray, List.set_cons_zero, List.set_cons_succ, i64_w, i32_w]
           rfl
          refine one_ (i := 7) (N := some 47) #[true, true, true, true, true, true, true, true, false, false, false] rfl rfl (one_of HT_.out (by kernel_rfl)) (by decide) (fun K hK => ?_)
          refine value_ (w1 := ?_) (v := ?_) (by rfl) rfl ?_ ?_
          rotate_left 2
          ·go_simp
           constructor
           ·rfl
           ·rfl
          refine hK.out _ _ ⟨(blk_cell (blk_alloc BK207.out _) 0).trans rfl, (blk_cell (blk_alloc BK207.out _) 1).trans rfl, (blk_cell (blk_alloc BK198.out _) 0).trans rfl, (blk_cell (blk_alloc BK198.out _) 1).trans rfl, (World.cell?_alloc_lt _ _ _ (World.block_lt_of_cell? _ _ (hHeld.2.2.2.2.1))).trans (hHeld.2.2.2.2.1), (World.cell?_alloc_lt _ _ _ (World.block_lt_of_cell? _ _ (hHeld.2.2.2.2.2.1))).trans (hHeld.2.2.2.2.2.1), (World.cell?_alloc_lt _ _ _ (World.block_lt_of_cell? _ _ (hHeld.2.2.2.2.2.2))).trans (hHeld.2.2.2.2.2.2)⟩ (fun hHeld => ?_)
          clear hK K
          refine norm_ (a' := ?_) ?_ ?_
          rotate_left
          ·show Act.put _ (some 47) _ = _
           simp only [Act.put, List.setIfInBounds_toArray, List.set_cons_zero, List.set_cons_succ, i64_w, i32_w]
           rfl
          refine last_ (i := 8) (N := some 48) #[true, true, true, true, true, true, true, true, true, false, false] rfl rfl (one_of HT_.out (by kernel_rfl)) (by decide) (fun K hK => ?_)
          refine Kd.R_append_step k36 (w0 := w) w.heap.size (by rfl) (.tmp 41) (.tmp 47) 27 36 (.agg #[(.int .i64 0), (.int .i64 0), (.int .i64 0)]) 24 rfl Try.underlying27 info36 rfl (by decide) (by omega) u208001 x208001_2 (⟨(rd_T36 t203 x9_2).f0, (rd_T36 t203 x9_2).f1, (rd_T36 t203 x9_2).f2⟩ : S36) [.int .i64 ((rd_T36 t203 x9_2).f0), .int .i64 ((rd_T36 t203 x9_2).f1), .int .i64 ((rd_T36 t203 x9_2).f2)] (fun _ => True) (fun _ => False) rfl rfl ?aP (fun _ hk => hk.elim) ?aF ?aO ?aB ?aS ?aL ?_
          (case aP => exact k36_mkM _ _ _ (⟨(rd_T36 t203 x9_2).f0, (rd_T36 t203 x9_2).f1, (rd_T36 t203 x9_2).f2⟩ : S36))
          (case aB => exact (by repeat (first | (with_reducible first | exact HB.out | apply below_alloc | apply pw_below_drewN | apply below_drew1 | refine below_set ?_ GE198.out | refine below_set ?_ GE207.out) | exact HB.out)))
          (case aF => exact (fun _ _ => trivial))
          (case aO => exact (by (with_reducible repeat (first | apply Kd.R_alloc | apply Kd.R_drewN | apply Kd.R_drew)); exact HO_208001.out))
          (case aS => exact (below_size (by repeat (first | (with_reducible first | exact HB.out | apply below_alloc | apply pw_below_drewN | apply below_drew1 | refine below_set ?_ GE198.out | refine below_set ?_ GE207.out) | exact HB.out))))
          (case aL => have := LMc33.out; omega)
          intro v210 w35 ho hb hg hat
          rw [← Ny209.out] at ho
          have n0_ := Aside0.mk (Kd.V_afterv (ok := (fun k_ => k_ ≠ gb198 ∧ k_ ≠ gb207)) (by (with_reducible repeat (first | apply Kd.V_alloc | apply Kd.V_drewN | apply Kd.V_drew)); exact Kd.V_mono HO_199000.out (fun _ hk => ⟨⟨hk.2.1, hk.2.2⟩, hk.1⟩)) hg hat)
          have n1_ := Aside0.mk (Kd.V_afterv (ok := (fun k_ => k_ ≠ gb198 ∧ k_ ≠ gb207)) (by (with_reducible repeat (first | apply Kd.V_alloc | apply Kd.V_drewN | apply Kd.V_drew)); exact Kd.V_mono HO_199001.out (fun _ hk => ⟨⟨hk.2.1, hk.2.2⟩, hk.1⟩)) hg hat)
          have n2_ := Aside0.mk (Kd.V_afterv (ok := (fun k_ => k_ ≠ gb198 ∧ k_ ≠ gb207)) (by (with_reducible repeat (first | apply Kd.V_alloc | apply Kd.V_drewN | apply Kd.V_drew)); exact Kd.V_mono HO_208000.out (fun _ hk => ⟨⟨hk.2.1, hk.2.2⟩, hk.1⟩)) hg hat)
          have n3_ := Aside0.mk (blk_grown (g := gb198) (o := .cells #[.slice Ao11 t200.length co11, .slice (some ad208) t203.length co13] 29 (0, 0)) (by (with_reducible repeat (first | refine blk_drewN ?_ _ | refine blk_drew ?_ | refine blk_alloc ?_ _)); exact BK198.out) hg (Kd.R_ne HO_208001.out BK198.out (by decide)))
          have n4_ := Aside0.mk (blk_grown (g := gb207) (o := .cells #[.slice Ao11 t200.length co11, u208001] 29 (0, 0)) (by (with_reducible repeat (first | refine blk_drewN ?_ _ | refine blk_drew ?_ | refine blk_alloc ?_ _)); exact BK207.out) hg (Kd.R_ne HO_208001.out BK207.out (by decide)))
          have n5_ := Aside0.mk (hb)
          have n6_ := Aside0.mk (ho)
          clear HO_199000
          clear HO_199001
          clear HO_208000
          clear BK198
          clear BK207
          clear HB
          clear HO_208001
          have HO_199000 := n0_
          have HO_199001 := n1_
          have HO_208000 := n2_
          have BK198 := n3_
          have BK207 := n4_
          have HB := n5_
          have HO211 := n6_
          clear n0_ n1_ n2_ n3_ n4_ n5_ n6_
          clear ho hb hg hat
          obtain ⟨Ao36, co36, eo36⟩ := Kd.R_slice HO211.out
          (first | subst eo36 | (injection eo36 with f1_ f2_ f3_; have f4_ := f1_.symm; have f5_ := f3_.symm; clear f1_ f2_ f3_; subst f4_; subst f5_))
          refine hK.out _ _ ?_
          clear hK K
          refine norm_ (a' := ?_) ?_ ?_
          rotate_left
          ·show Act.put _ (some 48) _ = _
           simp only [Act.put, List.setIfInBounds_toArray, List.set_cons_zero, List.set_cons_succ, i64_w, i32_w]
           rfl
          refine pure_ (i := 9) (N := some 49) (v := ?_) (a' := ?_) #[true, true, true, true, true, true, true, true, true, true, false] rfl rfl (any_of HT_.out (by kernel_rfl)) (fun _ _ _ h => h) (Or.inl ⟨by rfl, ?_⟩) ?_ ?_
          rotate_left
          ·intro w'
           go_simp
           with_reducible rfl
          rotate_left
          ·simp only [Act.put, List.setIfInBounds_toArray, List.set_cons_zero, List.set_cons_succ, i64_w, i32_w]
           rfl
          refine last_ (i := 10) (N := none) #[true, true, true, true, true, true, true, true, true, true, true] rfl rfl (one_of HT_.out (by kernel_rfl)) (by decide) (fun K hK => ?_)
          have hs37 : w35.cell? ⟨gb207, 1, none⟩ = some (u208001) := (blk_cell BK207.out 1).trans rfl
          have hfs37 := blk_frozen BK207.out 1
          have hns37_0 := NB198_207.out
          have hms37_0 := NB207_198.out
          refine skip_ (w1 := ?_) (by rfl) rfl ?_ ?_
          rotate_left
          ·go_simp
           rfl
          refine hK.out _ _ ?_
          clear hK K
          refine done_ (done_of HT_.out (by kernel_rfl)) ?_
          try go_wp2
          go_roundg k2
          case measure => have := HJ5.out; have := HK2.out; omega
          case rel => exact ⟨(wrap64 (x9_2 - 1)), (y209), (.slice Ao36 y209.length co36), (by first | rfl | (simp; done) | (simp [*]; done)), H', ⟨by have := HJ5.out; have := HK2.out; omega⟩, ⟨by (with_reducible repeat (first | apply Kd.V_alloc | apply Kd.V_drewN | apply Kd.V_drew)); exact Kd.V_mono (Kd.V_far (p := ⟨gb207, 1, none⟩) (Kd.V_mono HO_199000.out (fun k_ hk => (⟨hk, hk.1.2⟩ : _ ∧ k_ ≠ gb207))) (fun _ hk => hk.2) (.slice Ao36 y209.length co36)) (fun _ hk => ⟨hk.1.2, ⟨hk.1.1.1, hk.1.1.2⟩⟩)⟩, ⟨by (with_reducible repeat (first | apply Kd.V_alloc | apply Kd.V_drewN | apply Kd.V_drew)); exact Kd.V_mono (Kd.V_far (p := ⟨gb207, 1, none⟩) (Kd.V_mono HO_199001.out (fun k_ hk => (⟨hk, hk.1.2⟩ : _ ∧ k_ ≠ gb207))) (fun _ hk => hk.2) (.slice Ao36 y209.length co36)) (fun _ hk => ⟨hk.1.2, ⟨hk.1.1.1, hk.1.1.2⟩⟩)⟩, ⟨by (with_reducible repeat (first | apply Kd.V_alloc | apply Kd.V_drewN | apply Kd.V_drew)); exact Kd.V_mono (Kd.V_far (p := ⟨gb207, 1, none⟩) (Kd.V_mono HO_208000.out (fun k_ hk => (⟨hk, hk.1.2⟩ : _ ∧ k_ ≠ gb207))) (fun _ hk => hk.2) (.slice Ao36 y209.length co36)) (fun _ hk => ⟨hk.1.2, ⟨hk.1.1.1, hk.1.1.2⟩⟩)⟩, ⟨by (with_reducible repeat (first | apply Kd.R_alloc | apply Kd.R_drewN | apply Kd.R_drew)); exact Kd.R_mono (Kd.R_far (p := ⟨gb207, 1, none⟩) (Kd.R_types HO211.out BK207.out (by decide)) (fun _ hk => hk.2) (.slice Ao36 y209.length co36)) (fun _ hk => trivial)⟩, ⟨by (with_reducible repeat (first | refine blk_drewN ?_ _ | refine blk_drew ?_ | refine blk_alloc ?_ _)); refine blk_far ?_ NB198_207.out _; (with_reducible repeat (first | refine blk_drewN ?_ _ | refine blk_drew ?_ | refine blk_alloc ?_ _)); exact BK198.out⟩, ⟨by (with_reducible repeat (first | refine blk_drewN ?_ _ | refine blk_drew ?_ | refine blk_alloc ?_ _)); refine blk_put (cs := #[.slice Ao11 t200.length co11, u208001]) ?_ 1 _ rfl; (with_reducible repeat (first | refine blk_drewN ?_ _ | refine blk_drew ?_ | refine blk_alloc ?_ _)); exact BK207.out⟩, ⟨by repeat (first | (with_reducible first | exact HB.out | apply below_alloc | apply pw_below_drewN | apply below_drew1 | refine below_set ?_ GE198.out | refine below_set ?_ GE207.out) | exact HB.out)⟩⟩
         ·rw [if_neg c33] at H
          exact absurd H (by simp)
        ·rw [if_neg c32] at H
         exact absurd H (by simp)
       ·rw [if_neg c31] at H
        exact absurd H (by simp)
      ·rw [if_neg c30] at H
       have c30b0 : decide (0 ≤ x9_2) = false := decide_eq_false c30
       clear c30
       obtain ⟨y212, hy212⟩ : ∃ y_ : List (S23), y_ = (([] : List (S23))) := ⟨_, rfl⟩
       replace H : (if y212.length + t200.length < 4398046511104 then ((some (y212 ++ t200 : List (S23))).bind fun y215 => (if (Go.bits .and .i64 a2 3) = 0 then (if 0 ≤ a1 then (if a1 < (y215.length : Int) then (if t199 = true then ((valid_Graph.f k2 t200 x208001_2).bind fun t220 => (if t220 = 0 then ((valid_Graph.f k2 (y215.set (a1 : Int).toNat (⟨12, (rd_T23 y215 a1).f1, (rd_T23 y215 a1).f2, (rd_T23 y215 a1).f3⟩ : S23)) t203).bind fun t221 => (some (t221 == 10))) else (none))) else (none)) else (none)) else (none)) else (none))) else (none)) = some r := by first | (rw [hy212]; with_reducible exact H) | (have H2_ := (Option.bind_some _ _).symm.trans H; rw [hy212]; with_reducible exact H2_) | (have H2_ := (Option.bind_some _ _).symm.trans H; with_reducible exact H2_) | with_reducible exact H | (rw [hy212]; exact H) | exact H
       have Ny212 := Aside0.mk hy212
       clear hy212
       by_cases c38 : y212.length + t200.length < 4398046511104
       ·rw [if_pos c38] at H
        have LMc38 := Aside0.mk c38
        clear c38
        obtain ⟨y215, hy215⟩ : ∃ y_ : List (S23), y_ = (y212 ++ t200) := ⟨_, rfl⟩
        replace H : (if (Go.bits .and .i64 a2 3) = 0 then (if 0 ≤ a1 then (if a1 < (y215.length : Int) then (if t199 = true then ((valid_Graph.f k2 t200 x208001_2).bind fun t220 => (if t220 = 0 then ((valid_Graph.f k2 (y215.set (a1 : Int).toNat (⟨12, (rd_T23 y215 a1).f1, (rd_T23 y215 a1).f2, (rd_T23 y215 a1).f3⟩ : S23)) t203).bind fun t221 => (some (t221 == 10))) else (none))) else (none)) else (none)) else (none)) else (none)) = some r := by first | (rw [hy215]; with_reducible exact H) | (have H2_ := (Option.bind_some _ _).symm.trans H; rw [hy215]; with_reducible exact H2_) | (have H2_ := (Option.bind_some _ _).symm.trans H; with_reducible exact H2_) | with_reducible exact H | (rw [hy215]; exact H) | exact H
        have Ny215 := Aside0.mk hy215
        clear hy215
        by_cases c39 : (Go.bits .and .i64 a2 3) = 0
        ·rw [if_pos c39] at H
         have c39b0 : ((Go.bits .and .i64 a2 3) == 0) = true := beq_iff_eq.mpr c39
         have c39b1 : ((Go.bits .and .i64 a2 3) != 0) = false := bne_eq_false_iff_eq.mpr c39
         clear c39
         by_cases c40 : 0 ≤ a1
         ·rw [if_pos c40] at H
          have c40b0 : decide (0 ≤ a1) = true := decide_eq_true c40
          clear c40
          by_cases c41 : a1 < (y215.length : Int)
          ·rw [if_pos c41] at H
           have c41b0 : decide (a1 < (y215.length : Int)) = true := decide_eq_true c41
           clear c41
           obtain ⟨y219, hy219⟩ : ∃ y_ : List (S23), y_ = (y215.set (a1 : Int).toNat (⟨12, (rd_T23 y215 a1).f1, (rd_T23 y215 a1).f2, (rd_T23 y215 a1).f3⟩ : S23)) := ⟨_, rfl⟩
           replace H : (if t199 = true then ((valid_Graph.f k2 t200 x208001_2).bind fun t220 => (if t220 = 0 then ((valid_Graph.f k2 y219 t203).bind fun t221 => (some (t221 == 10))) else (none))) else (none)) = some r := by first | (rw [hy219]; with_reducible exact H) | (have H2_ := (Option.bind_some _ _).symm.trans H; rw [hy219]; with_reducible exact H2_) | (have H2_ := (Option.bind_some _ _).symm.trans H; with_reducible exact H2_) | with_reducible exact H | (rw [hy219]; exact H) | exact H
           have Ny219 := Aside0.mk hy219
           clear hy219
           by_cases c43 : t199 = true
           ·subst c43
            have H1 : ((valid_Graph.f k2 t200 x208001_2).bind fun t220 => (if t220 = 0 then ((valid_Graph.f k2 y219 t203).bind fun t221 => (some (t221 == 10))) else (none))) = some r := by rw [if_pos rfl] at H; exact H
            clear H
            have H := H1
            clear H1
            replace H := Option.bind_eq_some_iff.mp H
            obtain ⟨t220, A440, H⟩ := H
            replace H : (if t220 = 0 then ((valid_Graph.f k2 y219 t203).bind fun t221 => (some (t221 == 10))) else (none)) = some r := H
            have A44 := Aside0.mk A440
            clear A440
            by_cases c45 : t220 = 0
            ·rw [if_pos c45] at H
             have c45b0 : (t220 == 0) = true := beq_iff_eq.mpr c45
             have c45b1 : (t220 != 0) = false := bne_eq_false_iff_eq.mpr c45
             clear c45
             replace H := Option.bind_eq_some_iff.mp H
             obtain ⟨t221, A460, H⟩ := H
             replace H : (some (t221 == 10)) = some r := H
             have A46 := Aside0.mk A460
             clear A460
             obtain rfl := Option.some.inj H
             try go_wp2
             have n0_ := Aside0.mk (Kd.V_drew HO_199000.out)
             have n1_ := Aside0.mk (Kd.V_drew HO_199001.out)
             have n2_ := Aside0.mk (Kd.V_drew HO_208000.out)
             have n3_ := Aside0.mk (Kd.R_drew HO_208001.out)
             have n4_ := Aside0.mk (blk_drew BK198.out)
             have n5_ := Aside0.mk (blk_drew BK207.out)
             have n6_ := Aside0.mk (below_drew1 HB.out)
             clear HO_199000
             clear HO_199001
             clear HO_208000
             clear HO_208001
             clear BK198
             clear BK207
             clear HB
             have HO_199000 := n0_
             have HO_199001 := n1_
             have HO_208000 := n2_
             have HO_208001 := n3_
             have BK198 := n4_
             have BK207 := n5_
             have HB := n6_
             clear n0_ n1_ n2_ n3_ n4_ n5_ n6_
             refine start_ (n := 9) (S := fun w' => w'.cell? ⟨gb198, 0, none⟩ = some (.slice Ao11 t200.length co11) ∧ w'.cell? ⟨gb198, 1, none⟩ = some (.slice Ao13 t203.length co13)) (ds := []) #[false, false, false, false, false, false, false, false, false] (by kernel_rfl) rfl rfl ⟨(blk_cell BK198.out 0).trans rfl, (blk_cell BK198.out 1).trans rfl⟩ (fun hHeld => ?_); refine with_tabW meanderlaw09_ValidNumbers_Num0.tab10 meanderlaw09_ValidNumbers_Num0.bits10 (fun HT_ HW_ => ?_)
             generalize wr.drew = w47 at HO_199000 HO_199001 HO_208000 HO_208001 BK198 BK207 HB hHeld ⊢
             refine pure_ (i := 1) (N := some 51) (v := ?_) (a' := ?_) #[false, true, false, false, false, false, false, false, false] rfl rfl (any_of HT_.out (by kernel_rfl)) (fun _ _ _ h => h) (Or.inl ⟨by rfl, ?_⟩) ?_ ?_
             rotate_left
             ·intro w'
              go_simp
              with_reducible rfl
             rotate_left
             ·simp only [Act.put, List.setIfInBounds_toArray, List.set_cons_zero, List.set_cons_succ, i64_w, i32_w]
              rfl
             refine pure_ (i := 4) (N := some 54) (v := ?_) (a' := ?_) #[false, true, false, false, true, false, false, false, false] rfl rfl (any_of HT_.out (by kernel_rfl)) (fun _ _ _ h => h) (Or.inl ⟨by rfl, ?_⟩) ?_ ?_
             rotate_left
             ·intro w'
              go_simp
              with_reducible rfl
             rotate_left
             ·simp only [Act.put, List.setIfInBounds_toArray, List.set_cons_zero, List.set_cons_succ, i64_w, i32_w]
              rfl
             refine take_ (i := 2) (N := some 52) (v := ?_) (a' := ?_) #[false, true, true, false, true, false, false, false, false] rfl rfl (take_ofW HT_.out HW_.out (by kernel_rfl)) (fun _ _ _ h => h) (Or.inl ⟨by rfl, ?_⟩) hHeld ?_ ?_
             rotate_left
             ·rintro w' ⟨s0, s1⟩
              go_simp
              with_reducible rfl
             rotate_left
             ·simp only [Act.put, List.setIfInBounds_toArray, List.set_cons_zero, List.set_cons_succ, i64_w, i32_w]
              rfl
             refine take_ (i := 5) (N := some 55) (v := ?_) (a' := ?_) #[false, true, true, false, true, true, false, false, false] rfl rfl (take_ofW HT_.out HW_.out (by kernel_rfl)) (fun _ _ _ h => h) (Or.inl ⟨by rfl, ?_⟩) hHeld ?_ ?_
             rotate_left
             ·rintro w' ⟨s0, s1⟩
              go_simp
              with_reducible rfl
             rotate_left
             ·simp only [Act.put, List.setIfInBounds_toArray, List.set_cons_zero, List.set_cons_succ, i64_w, i32_w]
              rfl
             refine join_ (σ := Value × Value × Nat) 1 #[true, true, true, true, true, true, true, true, false] (fun s_ => [(50, s_.1), (53, s_.2.1), (10, .pointer (some ⟨s_.2.2, 0, none⟩)), (56, .agg #[s_.2.1, .slice Ao13 t203.length co13])]) (fun s_ w' => (w'.cell? ⟨gb198, 0, none⟩ = some (.slice Ao11 t200.length co11) ∧ w'.cell? ⟨gb198, 1, none⟩ = some (.slice Ao13 t203.length co13)) ∧ (Kd.R k23 23 w' w.heap.size (fun _ => True) s_.2.1 y215) ∧ (Kd.V k23 23 w' w.heap.size (fun k_ => some k_ ≠ (s_.2.1 : Value).ownBlock ∧ some k_ ≠ (u208001 : Value).ownBlock ∧ k_ ≠ gb198 ∧ k_ ≠ gb207 ∧ k_ ≠ s_.2.2) (.slice Ao11 t200.length co11) t200) ∧ (Kd.V k36 36 w' w.heap.size (fun k_ => some k_ ≠ (s_.2.1 : Value).ownBlock ∧ some k_ ≠ (u208001 : Value).ownBlock ∧ k_ ≠ gb198 ∧ k_ ≠ gb207 ∧ k_ ≠ s_.2.2) (.slice Ao13 t203.length co13) t203) ∧ (Kd.V k23 23 w' w.heap.size (fun k_ => some k_ ≠ (s_.2.1 : Value).ownBlock ∧ some k_ ≠ (u208001 : Value).ownBlock ∧ k_ ≠ gb198 ∧ k_ ≠ gb207 ∧ k_ ≠ s_.2.2) (.slice Ao11 t200.length co11) t200) ∧ (Kd.R k36 36 w' w.heap.size (fun _ => True) u208001 x208001_2) ∧ (w'.heap[gb198]? = some (.cells #[.slice Ao11 t200.length co11, .slice Ao13 t203.length co13] 29 (0, 0))) ∧ (w'.heap[gb207]? = some (.cells #[.slice Ao11 t200.length co11, u208001] 29 (0, 0))) ∧ (w'.heap[s_.2.2]? = some (.cells #[.slice none 0 0, .slice none 0 0] 29 (0, 0))) ∧ (w.heap.size ≤ s_.2.2) ∧ (w.heap.size ≤ s_.2.2) ∧ (gb198 ≠ s_.2.2) ∧ (s_.2.2 ≠ gb198) ∧ (gb207 ≠ s_.2.2) ∧ (s_.2.2 ≠ gb207) ∧ (Below w.heap.size w w')) ?_ ?_
             rotate_left
             ·intro hCont
              refine two_ (i := 0) (j := 7) (Ni := some 50) (Nj := some 10) #[true, true, true, false, true, true, false, false, false] #[false, true, true, false, true, true, false, true, false] rfl rfl rfl rfl (two_of HT_.out (by kernel_rfl)) (by decide) (by decide) (fun K hK => ?_) (fun K hK => ?_)
              ·skip
               refine Kd.R_lit_step k23 _ 23 ?hg (N := 50) ?hd (xs := ([] : List (S23))) (inner := []) (ok := fun _ => True) (okp := fun _ => True) ?hr ?hp (fun _ hk => hk) trivial (Below.refl _ _) (Nat.le_refl _) (by simp) ?_; (case hd => rfl); (case hg => rfl); (case hr => first | (go_simp; done) | (go_simp; rfl)); (case hp => exact (Reps.none _ _))
               intro v213 w48 ho49 hb hg_ hnew_
               clear hg_ hnew_
               (first | rw [← Ny212.out] at ho49 | (simp only [Int.reduceToNat] at ho49; rw [← Ny212.out] at ho49))
               have n0_ := Aside0.mk (Kd.V_elder' (by (with_reducible repeat (first | apply Kd.V_alloc | apply Kd.V_drewN | apply Kd.V_drew)); exact HO_199000.out) (Kd.R_base ho49) hb)
               have n1_ := Aside0.mk (Kd.V_elder' (by (with_reducible repeat (first | apply Kd.V_alloc | apply Kd.V_drewN | apply Kd.V_drew)); exact HO_199001.out) (Kd.R_base ho49) hb)
               have n2_ := Aside0.mk (Kd.V_elder' (by (with_reducible repeat (first | apply Kd.V_alloc | apply Kd.V_drewN | apply Kd.V_drew)); exact HO_208000.out) (Kd.R_base ho49) hb)
               have n3_ := Aside0.mk (Kd.R_below (by (with_reducible repeat (first | apply Kd.R_alloc | apply Kd.R_drewN | apply Kd.R_drew)); exact HO_208001.out) hb)
               have n4_ := Aside0.mk (Kd.R_lower ho49 (below_size (by repeat (first | (with_reducible first | exact HB.out | apply below_alloc | apply pw_below_drewN | apply below_drew1 | refine below_set ?_ GE198.out | refine below_set ?_ GE207.out) | exact HB.out))))
               have n5_ := Aside0.mk (blk_below (g := gb198) (o := .cells #[.slice Ao11 t200.length co11, .slice Ao13 t203.length co13] 29 (0, 0)) (by (with_reducible repeat (first | refine blk_drewN ?_ _ | refine blk_drew ?_ | refine blk_alloc ?_ _)); exact BK198.out) hb)
               have n6_ := Aside0.mk (blk_below (g := gb207) (o := .cells #[.slice Ao11 t200.length co11, u208001] 29 (0, 0)) (by (with_reducible repeat (first | refine blk_drewN ?_ _ | refine blk_drew ?_ | refine blk_alloc ?_ _)); exact BK207.out) hb)
               have n7_ := Aside0.mk (below_step (by repeat (first | (with_reducible first | exact HB.out | apply below_alloc | apply pw_below_drewN | apply below_drew1 | refine below_set ?_ GE198.out | refine below_set ?_ GE207.out) | exact HB.out)) hb)
               clear HO_199000
               clear HO_199001
               clear HO_208000
               clear HO_208001
               clear BK198
               clear BK207
               clear HB
               have HO_199000 := n0_
               have HO_199001 := n1_
               have HO_208000 := n2_
               have HO_208001 := n3_
               have HO214 := n4_
               have BK198 := n5_
               have BK207 := n6_
               have HB := n7_
               clear n0_ n1_ n2_ n3_ n4_ n5_ n6_ n7_
               clear hb ho49
               refine hK.out _ _ ⟨(blk_cell BK198.out 0).trans rfl, (blk_cell BK198.out 1).trans rfl⟩ (fun hHeld => ?_)
               clear hK K
               refine norm_ (a' := ?_) ?_ ?_
               rotate_left
               ·show Act.put _ (some 50) _ = _
                simp only [Act.put, List.setIfInBounds_toArray, List.set_cons_zero, List.set_cons_succ, i64_w, i32_w]
                rfl
               refine two_ (i := 3) (j := 7) (Ni := some 53) (Nj := some 10) #[true, true, true, true, true, true, false, false, false] #[true, true, true, false, true, true, false, true, false] rfl rfl rfl rfl (two_of HT_.out (by kernel_rfl)) (by decide) (by decide) (fun K hK => ?_) (fun K hK => ?_)
               ·skip
                refine Kd.R_append_rows_step k23 (w0 := w) w.heap.size (by rfl) (.tmp 50) (.tmp 52) 26 23 (.agg #[(.int .i64 0), (.int .i64 0), (.int .i64 0), (.int .i64 0)]) 32 rfl Try.underlying26 info23 rfl (by decide) (by omega) v213 y212 t200 _ _ _ (fun _ => True) (fun _ => False) rfl rfl ?aO ?aR (fun _ _ h => h) (fun _ h => h.elim) ?aF ?aB ?aS ?aL ?_
                (case aR => repeat (first | exact (Kd.V_reads' HO_199000.out).2.2 | (with_reducible refine Kd.C_alloc ?_ _) | (with_reducible refine Kd.C_drewN ?_ _) | (with_reducible refine Kd.C_drew ?_)))
                (case aB => exact (by repeat (first | (with_reducible first | exact HB.out | apply below_alloc | apply pw_below_drewN | apply below_drew1 | refine below_set ?_ GE198.out | refine below_set ?_ GE207.out) | exact HB.out)))
                (case aF => exact (fun _ _ => trivial))
                (case aO => exact (by (with_reducible repeat (first | apply Kd.R_alloc | apply Kd.R_drewN | apply Kd.R_drew)); exact HO214.out))
                (case aS => exact (below_size (by repeat (first | (with_reducible first | exact HB.out | apply below_alloc | apply pw_below_drewN | apply below_drew1 | refine below_set ?_ GE198.out | refine below_set ?_ GE207.out) | exact HB.out))))
                (case aL => have := LMc38.out; omega)
                intro v216 w50 ho hb hg hat
                rw [← Ny215.out] at ho
                have n0_ := Aside0.mk (Kd.V_afterv (ok := (fun k_ => some k_ ≠ (u208001 : Value).ownBlock ∧ k_ ≠ gb198 ∧ k_ ≠ gb207)) (by (with_reducible repeat (first | apply Kd.V_alloc | apply Kd.V_drewN | apply Kd.V_drew)); exact HO_199000.out) hg hat)
                have n1_ := Aside0.mk (Kd.V_afterv (ok := (fun k_ => some k_ ≠ (u208001 : Value).ownBlock ∧ k_ ≠ gb198 ∧ k_ ≠ gb207)) (by (with_reducible repeat (first | apply Kd.V_alloc | apply Kd.V_drewN | apply Kd.V_drew)); exact HO_199001.out) hg hat)
                have n2_ := Aside0.mk (Kd.V_afterv (ok := (fun k_ => some k_ ≠ (u208001 : Value).ownBlock ∧ k_ ≠ gb198 ∧ k_ ≠ gb207)) (by (with_reducible repeat (first | apply Kd.V_alloc | apply Kd.V_drewN | apply Kd.V_drew)); exact HO_208000.out) hg hat)
                have n3_ := Aside0.mk (Kd.R_over' (by (with_reducible repeat (first | apply Kd.R_alloc | apply Kd.R_drewN | apply Kd.R_drew)); exact HO_208001.out) (Kd.R_typed (by (with_reducible repeat (first | apply Kd.R_alloc | apply Kd.R_drewN | apply Kd.R_drew)); exact HO214.out)) (by decide) hg)
                have n4_ := Aside0.mk (blk_grown (g := gb198) (o := .cells #[.slice Ao11 t200.length co11, .slice Ao13 t203.length co13] 29 (0, 0)) (by (with_reducible repeat (first | refine blk_drewN ?_ _ | refine blk_drew ?_ | refine blk_alloc ?_ _)); exact BK198.out) hg (Kd.R_ne HO214.out BK198.out (by decide)))
                have n5_ := Aside0.mk (blk_grown (g := gb207) (o := .cells #[.slice Ao11 t200.length co11, u208001] 29 (0, 0)) (by (with_reducible repeat (first | refine blk_drewN ?_ _ | refine blk_drew ?_ | refine blk_alloc ?_ _)); exact BK207.out) hg (Kd.R_ne HO214.out BK207.out (by decide)))
                have n6_ := Aside0.mk (hb)
                have n7_ := Aside0.mk (ho)
                clear HO_199000
                clear HO_199001
                clear HO_208000
                clear HO_208001
                clear BK198
                clear BK207
                clear HB
                clear HO214
                have HO_199000 := n0_
                have HO_199001 := n1_
                have HO_208000 := n2_
                have HO_208001 := n3_
                have BK198 := n4_
                have BK207 := n5_
                have HB := n6_
                have HO217 := n7_
                clear n0_ n1_ n2_ n3_ n4_ n5_ n6_ n7_
                clear ho hb hg hat
                obtain ⟨Ao51, co51, eo51⟩ := Kd.R_slice HO217.out
                (first | subst eo51 | (injection eo51 with f1_ f2_ f3_; have f4_ := f1_.symm; have f5_ := f3_.symm; clear f1_ f2_ f3_; subst f4_; subst f5_))
                refine hK.out _ _ ⟨(blk_cell BK198.out 0).trans rfl, (blk_cell BK198.out 1).trans rfl⟩ (fun hHeld => ?_)
                clear hK K
                refine norm_ (a' := ?_) ?_ ?_
                rotate_left
                ·show Act.put _ (some 53) _ = _
                 simp only [Act.put, List.setIfInBounds_toArray, List.set_cons_zero, List.set_cons_succ, i64_w, i32_w]
                 rfl
                refine pure_ (i := 6) (N := some 56) (v := ?_) (a' := ?_) #[true, true, true, true, true, true, true, false, false] rfl rfl (any_of HT_.out (by kernel_rfl)) (fun _ _ _ h => h) (Or.inl ⟨by rfl, ?_⟩) ?_ ?_
                rotate_left
                ·intro w'
                 go_simp
                 with_reducible rfl
                rotate_left
                ·simp only [Act.put, List.setIfInBounds_toArray, List.set_cons_zero, List.set_cons_succ, i64_w, i32_w]
                 rfl
                refine one_ (i := 7) (N := some 10) #[true, true, true, true, true, true, true, true, false] rfl rfl (one_of HT_.out (by kernel_rfl)) (by decide) (fun K hK => ?_)
                refine box_step ?hg (N := 10) ?hd (cs := #[.slice none 0 0, .slice none 0 0]) (t := 29) ?hr ?_; (case hd => rfl); (case hg => rfl); (case hr => first | (go_simp; done) | (go_simp; rfl))
                intro gb218 hg w52 hbox hb
                have n0_ := Aside0.mk (Kd.V_below (Kd.V_elderB (by (with_reducible repeat (first | apply Kd.V_alloc | apply Kd.V_drewN | apply Kd.V_drew)); exact HO_199000.out) gb218 (Nat.le_of_eq hg.symm)) hb)
                have n1_ := Aside0.mk (Kd.V_below (Kd.V_elderB (by (with_reducible repeat (first | apply Kd.V_alloc | apply Kd.V_drewN | apply Kd.V_drew)); exact HO_199001.out) gb218 (Nat.le_of_eq hg.symm)) hb)
                have n2_ := Aside0.mk (Kd.V_below (Kd.V_elderB (by (with_reducible repeat (first | apply Kd.V_alloc | apply Kd.V_drewN | apply Kd.V_drew)); exact HO_208000.out) gb218 (Nat.le_of_eq hg.symm)) hb)
                have n3_ := Aside0.mk (Kd.R_below (by (with_reducible repeat (first | apply Kd.R_alloc | apply Kd.R_drewN | apply Kd.R_drew)); exact HO_208001.out) hb)
                have n4_ := Aside0.mk (Kd.R_below (by (with_reducible repeat (first | apply Kd.R_alloc | apply Kd.R_drewN | apply Kd.R_drew)); exact HO217.out) hb)
                have n5_ := Aside0.mk (blk_below (g := gb198) (o := .cells #[.slice Ao11 t200.length co11, .slice Ao13 t203.length co13] 29 (0, 0)) (by (with_reducible repeat (first | refine blk_drewN ?_ _ | refine blk_drew ?_ | refine blk_alloc ?_ _)); exact BK198.out) hb)
                have n6_ := Aside0.mk (blk_below (g := gb207) (o := .cells #[.slice Ao11 t200.length co11, u208001] 29 (0, 0)) (by (with_reducible repeat (first | refine blk_drewN ?_ _ | refine blk_drew ?_ | refine blk_alloc ?_ _)); exact BK207.out) hb)
                have n7_ := Aside0.mk (below_step (by repeat (first | (with_reducible first | exact HB.out | apply below_alloc | apply pw_below_drewN | apply below_drew1 | refine below_set ?_ GE198.out | refine below_set ?_ GE207.out) | exact HB.out)) hb)
                have n8_ := Aside0.mk (hbox)
                have n9_ := Aside0.mk ((by rw [hg]; exact (below_size (by repeat (first | (with_reducible first | exact HB.out | apply below_alloc | apply pw_below_drewN | apply below_drew1 | refine below_set ?_ GE198.out | refine below_set ?_ GE207.out) | exact HB.out))) : w.heap.size ≤ gb218))
                have n10_ := Aside0.mk ((by rw [hg]; exact (below_size (by repeat (first | (with_reducible first | exact HB.out | apply below_alloc | apply pw_below_drewN | apply below_drew1 | refine below_set ?_ GE198.out | refine below_set ?_ GE207.out) | exact HB.out))) : w.heap.size ≤ gb218))
                have n11_ := Aside0.mk ((by rw [hg]; exact Nat.ne_of_lt (blk_lt (g := gb198) (o := .cells #[.slice Ao11 t200.length co11, .slice Ao13 t203.length co13] 29 (0, 0)) (by (with_reducible repeat (first | refine blk_drewN ?_ _ | refine blk_drew ?_ | refine blk_alloc ?_ _)); exact BK198.out)) : gb198 ≠ gb218))
                have n12_ := Aside0.mk ((by rw [hg]; exact Nat.ne_of_gt (blk_lt (g := gb198) (o := .cells #[.slice Ao11 t200.length co11, .slice Ao13 t203.length co13] 29 (0, 0)) (by (with_reducible repeat (first | refine blk_drewN ?_ _ | refine blk_drew ?_ | refine blk_alloc ?_ _)); exact BK198.out)) : gb218 ≠ gb198))
                have n13_ := Aside0.mk ((by rw [hg]; exact Nat.ne_of_lt (blk_lt (g := gb207) (o := .cells #[.slice Ao11 t200.length co11, u208001] 29 (0, 0)) (by (with_reducible repeat (first | refine blk_drewN ?_ _ | refine blk_drew ?_ | refine blk_alloc ?_ _)); exact BK207.out)) : gb207 ≠ gb218))
                have n14_ := Aside0.mk ((by rw [hg]; exact Nat.ne_of_gt (blk_lt (g := gb207) (o := .cells #[.slice Ao11 t200.length co11, u208001] 29 (0, 0)) (by (with_reducible repeat (first | refine blk_drewN ?_ _ | refine blk_drew ?_ | refine blk_alloc ?_ _)); exact BK207.out)) : gb218 ≠ gb207))
                clear HO_199000
                clear HO_199001
                clear HO_208000
                clear HO_208001
                clear HO217
                clear BK198
                clear BK207
                clear HB
                have HO_199000 := n0_
                have HO_199001 := n1_
                have HO_208000 := n2_
                have HO_208001 := n3_
                have HO217 := n4_
                have BK198 := n5_
                have BK207 := n6_
                have HB := n7_
                have BK218 := n8_
                have GW218 := n9_
                have GE218 := n10_
                have NB198_218 := n11_
                have NB218_198 := n12_
                have NB207_218 := n13_
                have NB218_207 := n14_
                clear n0_ n1_ n2_ n3_ n4_ n5_ n6_ n7_ n8_ n9_ n10_ n11_ n12_ n13_ n14_
                clear hb hbox hg
                refine hK.out _ _ ⟨(blk_cell BK198.out 0).trans rfl, (blk_cell BK198.out 1).trans rfl⟩ (fun hHeld => ?_)
                clear hK K
                refine norm_ (a' := ?_) ?_ ?_
                rotate_left
                ·show Act.put _ (some 10) _ = _
                 simp only [Act.put, List.setIfInBounds_toArray, List.set_cons_zero, List.set_cons_succ, i64_w, i32_w]
                 rfl
                exact norm_ (by simp only [putAll, Act.put, List.setIfInBounds_toArray, List.set_cons_zero, List.set_cons_succ]) (hCont (v213, .slice Ao51 y215.length co51, gb218) _ ⟨hHeld, (by (with_reducible repeat (first | apply Kd.R_alloc | apply Kd.R_drewN | apply Kd.R_drew)); exact HO217.out), (by (with_reducible repeat (first | apply Kd.V_alloc | apply Kd.V_drewN | apply Kd.V_drew)); exact Kd.V_mono HO_199000.out (fun _ hk => ⟨hk.1.2, ⟨hk.1.1.1, ⟨hk.1.1.2.1, ⟨hk.1.1.2.2, hk.2⟩⟩⟩⟩)), (by (with_reducible repeat (first | apply Kd.V_alloc | apply Kd.V_drewN | apply Kd.V_drew)); exact Kd.V_mono HO_199001.out (fun _ hk => ⟨hk.1.2, ⟨hk.1.1.1, ⟨hk.1.1.2.1, ⟨hk.1.1.2.2, hk.2⟩⟩⟩⟩)), (by (with_reducible repeat (first | apply Kd.V_alloc | apply Kd.V_drewN | apply Kd.V_drew)); exact Kd.V_mono HO_208000.out (fun _ hk => ⟨hk.1.2, ⟨hk.1.1.1, ⟨hk.1.1.2.1, ⟨hk.1.1.2.2, hk.2⟩⟩⟩⟩)), (by (with_reducible repeat (first | apply Kd.R_alloc | apply Kd.R_drewN | apply Kd.R_drew)); exact HO_208001.out), (by (with_reducible repeat (first | refine blk_drewN ?_ _ | refine blk_drew ?_ | refine blk_alloc ?_ _)); exact BK198.out), (by (with_reducible repeat (first | refine blk_drewN ?_ _ | refine blk_drew ?_ | refine blk_alloc ?_ _)); exact BK207.out), (by (with_reducible repeat (first | refine blk_drewN ?_ _ | refine blk_drew ?_ | refine blk_alloc ?_ _)); exact BK218.out), GW218.out, GE218.out, NB198_218.out, NB218_198.out, NB207_218.out, NB218_207.out, (by repeat (first | (with_reducible first | exact HB.out | apply below_alloc | apply pw_below_drewN | apply below_drew1 | refine below_set ?_ GE198.out | refine below_set ?_ GE207.out | refine below_set ?_ GE218.out) | exact HB.out))⟩)
               ·skip
                refine box_step ?hg (N := 10) ?hd (cs := #[.slice none 0 0, .slice none 0 0]) (t := 29) ?hr ?_; (case hd => rfl); (case hg => rfl); (case hr => first | (go_simp; done) | (go_simp; rfl))
                intro gb218 hg w50 hbox hb
                have n0_ := Aside0.mk (Kd.V_below (Kd.V_elderB (by (with_reducible repeat (first | apply Kd.V_alloc | apply Kd.V_drewN | apply Kd.V_drew)); exact HO_199000.out) gb218 (Nat.le_of_eq hg.symm)) hb)
                have n1_ := Aside0.mk (Kd.V_below (Kd.V_elderB (by (with_reducible repeat (first | apply Kd.V_alloc | apply Kd.V_drewN | apply Kd.V_drew)); exact HO_199001.out) gb218 (Nat.le_of_eq hg.symm)) hb)
                have n2_ := Aside0.mk (Kd.V_below (Kd.V_elderB (by (with_reducible repeat (first | apply Kd.V_alloc | apply Kd.V_drewN | apply Kd.V_drew)); exact HO_208000.out) gb218 (Nat.le_of_eq hg.symm)) hb)
                have n3_ := Aside0.mk (Kd.R_below (by (with_reducible repeat (first | apply Kd.R_alloc | apply Kd.R_drewN | apply Kd.R_drew)); exact HO_208001.out) hb)
                have n4_ := Aside0.mk (Kd.R_below (by (with_reducible repeat (first | apply Kd.R_alloc | apply Kd.R_drewN | apply Kd.R_drew)); exact HO214.out) hb)
                have n5_ := Aside0.mk (blk_below (g := gb198) (o := .cells #[.slice Ao11 t200.length co11, .slice Ao13 t203.length co13] 29 (0, 0)) (by (with_reducible repeat (first | refine blk_drewN ?_ _ | refine blk_drew ?_ | refine blk_alloc ?_ _)); exact BK198.out) hb)
                have n6_ := Aside0.mk (blk_below (g := gb207) (o := .cells #[.slice Ao11 t200.length co11, u208001] 29 (0, 0)) (by (with_reducible repeat (first | refine blk_drewN ?_ _ | refine blk_drew ?_ | refine blk_alloc ?_ _)); exact BK207.out) hb)
                have n7_ := Aside0.mk (below_step (by repeat (first | (with_reducible first | exact HB.out | apply below_alloc | apply pw_below_drewN | apply below_drew1 | refine below_set ?_ GE198.out | refine below_set ?_ GE207.out) | exact HB.out)) hb)
                have n8_ := Aside0.mk (hbox)
                have n9_ := Aside0.mk ((by rw [hg]; exact (below_size (by repeat (first | (with_reducible first | exact HB.out | apply below_alloc | apply pw_below_drewN | apply below_drew1 | refine below_set ?_ GE198.out | refine below_set ?_ GE207.out) | exact HB.out))) : w.heap.size ≤ gb218))
                have n10_ := Aside0.mk ((by rw [hg]; exact (below_size (by repeat (first | (with_reducible first | exact HB.out | apply below_alloc | apply pw_below_drewN | apply below_drew1 | refine below_set ?_ GE198.out | refine below_set ?_ GE207.out) | exact HB.out))) : w.heap.size ≤ gb218))
                have n11_ := Aside0.mk ((by rw [hg]; exact Nat.ne_of_lt (blk_lt (g := gb198) (o := .cells #[.slice Ao11 t200.length co11, .slice Ao13 t203.length co13] 29 (0, 0)) (by (with_reducible repeat (first | refine blk_drewN ?_ _ | refine blk_drew ?_ | refine blk_alloc ?_ _)); exact BK198.out)) : gb198 ≠ gb218))
                have n12_ := Aside0.mk ((by rw [hg]; exact Nat.ne_of_gt (blk_lt (g := gb198) (o := .cells #[.slice Ao11 t200.length co11, .slice Ao13 t203.length co13] 29 (0, 0)) (by (with_reducible repeat (first | refine blk_drewN ?_ _ | refine blk_drew ?_ | refine blk_alloc ?_ _)); exact BK198.out)) : gb218 ≠ gb198))
                have n13_ := Aside0.mk ((by rw [hg]; exact Nat.ne_of_lt (blk_lt (g := gb207) (o := .cells #[.slice Ao11 t200.length co11, u208001] 29 (0, 0)) (by (with_reducible repeat (first | refine blk_drewN ?_ _ | refine blk_drew ?_ | refine blk_alloc ?_ _)); exact BK207.out)) : gb207 ≠ gb218))
                have n14_ := Aside0.mk ((by rw [hg]; exact Nat.ne_of_gt (blk_lt (g := gb207) (o := .cells #[.slice Ao11 t200.length co11, u208001] 29 (0, 0)) (by (with_reducible repeat (first | refine blk_drewN ?_ _ | refine blk_drew ?_ | refine blk_alloc ?_ _)); exact BK207.out)) : gb218 ≠ gb207))
                clear HO_199000
                clear HO_199001
                clear HO_208000
                clear HO_208001
                clear HO214
                clear BK198
                clear BK207
                clear HB
                have HO_199000 := n0_
                have HO_199001 := n1_
                have HO_208000 := n2_
                have HO_208001 := n3_
                have HO214 := n4_
                have BK198 := n5_
                have BK207 := n6_
                have HB := n7_
                have BK218 := n8_
                have GW218 := n9_
                have GE218 := n10_
                have NB198_218 := n11_
                have NB218_198 := n12_
                have NB207_218 := n13_
                have NB218_207 := n14_
                clear n0_ n1_ n2_ n3_ n4_ n5_ n6_ n7_ n8_ n9_ n10_ n11_ n12_ n13_ n14_
                clear hb hbox hg
                refine hK.out _ _ ⟨(blk_cell BK198.out 0).trans rfl, (blk_cell BK198.out 1).trans rfl⟩ (fun hHeld => ?_)
                clear hK K
                refine norm_ (a' := ?_) ?_ ?_
                rotate_left
                ·show Act.put _ (some 10) _ = _
                 simp only [Act.put, List.setIfInBounds_toArray, List.set_cons_zero, List.set_cons_succ, i64_w, i32_w]
                 rfl
                refine one_ (i := 3) (N := some 53) #[true, true, true, true, true, true, false, true, false] rfl rfl (one_of HT_.out (by kernel_rfl)) (by decide) (fun K hK => ?_)
                refine Kd.R_append_rows_step k23 (w0 := w) w.heap.size (by rfl) (.tmp 50) (.tmp 52) 26 23 (.agg #[(.int .i64 0), (.int .i64 0), (.int .i64 0), (.int .i64 0)]) 32 rfl Try.underlying26 info23 rfl (by decide) (by omega) v213 y212 t200 _ _ _ (fun _ => True) (fun _ => False) rfl rfl ?aO ?aR (fun _ _ h => h) (fun _ h => h.elim) ?aF ?aB ?aS ?aL ?_
                (case aR => repeat (first | exact (Kd.V_reads' HO_199000.out).2.2 | (with_reducible refine Kd.C_alloc ?_ _) | (with_reducible refine Kd.C_drewN ?_ _) | (with_reducible refine Kd.C_drew ?_)))
                (case aB => exact (by repeat (first | (with_reducible first | exact HB.out | apply below_alloc | apply pw_below_drewN | apply below_drew1 | refine below_set ?_ GE198.out | refine below_set ?_ GE207.out | refine below_set ?_ GE218.out) | exact HB.out)))
                (case aF => exact (fun _ _ => trivial))
                (case aO => exact (by (with_reducible repeat (first | apply Kd.R_alloc | apply Kd.R_drewN | apply Kd.R_drew)); exact HO214.out))
                (case aS => exact (below_size (by repeat (first | (with_reducible first | exact HB.out | apply below_alloc | apply pw_below_drewN | apply below_drew1 | refine below_set ?_ GE198.out | refine below_set ?_ GE207.out | refine below_set ?_ GE218.out) | exact HB.out))))
                (case aL => have := LMc38.out; omega)
                intro v216 w51 ho hb hg hat
                rw [← Ny215.out] at ho
                have n0_ := Aside0.mk (Kd.V_afterv (ok := (fun k_ => some k_ ≠ (u208001 : Value).ownBlock ∧ k_ ≠ gb198 ∧ k_ ≠ gb207 ∧ k_ ≠ gb218)) (by (with_reducible repeat (first | apply Kd.V_alloc | apply Kd.V_drewN | apply Kd.V_drew)); exact Kd.V_mono HO_199000.out (fun _ hk => ⟨⟨hk.1.1.1, ⟨hk.1.1.2.1, ⟨hk.1.1.2.2, hk.2⟩⟩⟩, hk.1.2⟩)) hg hat)
                have n1_ := Aside0.mk (Kd.V_afterv (ok := (fun k_ => some k_ ≠ (u208001 : Value).ownBlock ∧ k_ ≠ gb198 ∧ k_ ≠ gb207 ∧ k_ ≠ gb218)) (by (with_reducible repeat (first | apply Kd.V_alloc | apply Kd.V_drewN | apply Kd.V_drew)); exact Kd.V_mono HO_199001.out (fun _ hk => ⟨⟨hk.1.1.1, ⟨hk.1.1.2.1, ⟨hk.1.1.2.2, hk.2⟩⟩⟩, hk.1.2⟩)) hg hat)
                have n2_ := Aside0.mk (Kd.V_afterv (ok := (fun k_ => some k_ ≠ (u208001 : Value).ownBlock ∧ k_ ≠ gb198 ∧ k_ ≠ gb207 ∧ k_ ≠ gb218)) (by (with_reducible repeat (first | apply Kd.V_alloc | apply Kd.V_drewN | apply Kd.V_drew)); exact Kd.V_mono HO_208000.out (fun _ hk => ⟨⟨hk.1.1.1, ⟨hk.1.1.2.1, ⟨hk.1.1.2.2, hk.2⟩⟩⟩, hk.1.2⟩)) hg hat)
                have n3_ := Aside0.mk (Kd.R_over' (by (with_reducible repeat (first | apply Kd.R_alloc | apply Kd.R_drewN | apply Kd.R_drew)); exact HO_208001.out) (Kd.R_typed (by (with_reducible repeat (first | apply Kd.R_alloc | apply Kd.R_drewN | apply Kd.R_drew)); exact HO214.out)) (by decide) hg)
                have n4_ := Aside0.mk (blk_grown (g := gb198) (o := .cells #[.slice Ao11 t200.length co11, .slice Ao13 t203.length co13] 29 (0, 0)) (by (with_reducible repeat (first | refine blk_drewN ?_ _ | refine blk_drew ?_ | refine blk_alloc ?_ _)); exact BK198.out) hg (Kd.R_ne HO214.out BK198.out (by decide)))
                have n5_ := Aside0.mk (blk_grown (g := gb207) (o := .cells #[.slice Ao11 t200.length co11, u208001] 29 (0, 0)) (by (with_reducible repeat (first | refine blk_drewN ?_ _ | refine blk_drew ?_ | refine blk_alloc ?_ _)); exact BK207.out) hg (Kd.R_ne HO214.out BK207.out (by decide)))
                have n6_ := Aside0.mk (blk_grown (g := gb218) (o := .cells #[.slice none 0 0, .slice none 0 0] 29 (0, 0)) (by (with_reducible repeat (first | refine blk_drewN ?_ _ | refine blk_drew ?_ | refine blk_alloc ?_ _)); exact BK218.out) hg (Kd.R_ne HO214.out BK218.out (by decide)))
                have n7_ := Aside0.mk (hb)
                have n8_ := Aside0.mk (ho)
                clear HO_199000
                clear HO_199001
                clear HO_208000
                clear HO_208001
                clear BK198
                clear BK207
                clear BK218
                clear HB
                clear HO214
                have HO_199000 := n0_
                have HO_199001 := n1_
                have HO_208000 := n2_
                have HO_208001 := n3_
                have BK198 := n4_
                have BK207 := n5_
                have BK218 := n6_
                have HB := n7_
                have HO217 := n8_
                clear n0_ n1_ n2_ n3_ n4_ n5_ n6_ n7_ n8_
                clear ho hb hg hat
                obtain ⟨Ao52, co52, eo52⟩ := Kd.R_slice HO217.out
                (first | subst eo52 | (injection eo52 with f1_ f2_ f3_; have f4_ := f1_.symm; have f5_ := f3_.symm; clear f1_ f2_ f3_; subst f4_; subst f5_))
                refine hK.out _ _ ⟨(blk_cell BK198.out 0).trans rfl, (blk_cell BK198.out 1).trans rfl⟩ (fun hHeld => ?_)
                clear hK K
                refine norm_ (a' := ?_) ?_ ?_
                rotate_left
                ·show Act.put _ (some 53) _ = _
                 simp only [Act.put, List.setIfInBounds_toArray, List.set_cons_zero, List.set_cons_succ, i64_w, i32_w]
                 rfl
                refine pure_ (i := 6) (N := some 56) (v := ?_) (a' := ?_) #[true, true, true, true, true, true, true, true, false] rfl rfl (any_of HT_.out (by kernel_rfl)) (fun _ _ _ h => h) (Or.inl ⟨by rfl, ?_⟩) ?_ ?_
                rotate_left
                ·intro w'
                 go_simp
                 with_reducible rfl
                rotate_left
                ·simp only [Act.put, List.setIfInBounds_toArray, List.set_cons_zero, List.set_cons_succ, i64_w, i32_w]
                 rfl
                exact norm_ (by simp only [putAll, Act.put, List.setIfInBounds_toArray, List.set_cons_zero, List.set_cons_succ]) (hCont (v213, .slice Ao52 y215.length co52, gb218) _ ⟨hHeld, (by (with_reducible repeat (first | apply Kd.R_alloc | apply Kd.R_drewN | apply Kd.R_drew)); exact HO217.out), (by (with_reducible repeat (first | apply Kd.V_alloc | apply Kd.V_drewN | apply Kd.V_drew)); exact Kd.V_mono HO_199000.out (fun _ hk => ⟨hk.2, ⟨hk.1.1, ⟨hk.1.2.1, ⟨hk.1.2.2.1, hk.1.2.2.2⟩⟩⟩⟩)), (by (with_reducible repeat (first | apply Kd.V_alloc | apply Kd.V_drewN | apply Kd.V_drew)); exact Kd.V_mono HO_199001.out (fun _ hk => ⟨hk.2, ⟨hk.1.1, ⟨hk.1.2.1, ⟨hk.1.2.2.1, hk.1.2.2.2⟩⟩⟩⟩)), (by (with_reducible repeat (first | apply Kd.V_alloc | apply Kd.V_drewN | apply Kd.V_drew)); exact Kd.V_mono HO_208000.out (fun _ hk => ⟨hk.2, ⟨hk.1.1, ⟨hk.1.2.1, ⟨hk.1.2.2.1, hk.1.2.2.2⟩⟩⟩⟩)), (by (with_reducible repeat (first | apply Kd.R_alloc | apply Kd.R_drewN | apply Kd.R_drew)); exact HO_208001.out), (by (with_reducible repeat (first | refine blk_drewN ?_ _ | refine blk_drew ?_ | refine blk_alloc ?_ _)); exact BK198.out), (by (with_reducible repeat (first | refine blk_drewN ?_ _ | refine blk_drew ?_ | refine blk_alloc ?_ _)); exact BK207.out), (by (with_reducible repeat (first | refine blk_drewN ?_ _ | refine blk_drew ?_ | refine blk_alloc ?_ _)); exact BK218.out), GW218.out, GE218.out, NB198_218.out, NB218_198.out, NB207_218.out, NB218_207.out, (by repeat (first | (with_reducible first | exact HB.out | apply below_alloc | apply pw_below_drewN | apply below_drew1 | refine below_set ?_ GE198.out | refine below_set ?_ GE207.out | refine below_set ?_ GE218.out) | exact HB.out))⟩)
              ·skip
               refine box_step ?hg (N := 10) ?hd (cs := #[.slice none 0 0, .slice none 0 0]) (t := 29) ?hr ?_; (case hd => rfl); (case hg => rfl); (case hr => first | (go_simp; done) | (go_simp; rfl))
               intro gb218 hg w48 hbox hb
               have n0_ := Aside0.mk (Kd.V_below (Kd.V_elderB (by (with_reducible repeat (first | apply Kd.V_alloc | apply Kd.V_drewN | apply Kd.V_drew)); exact HO_199000.out) gb218 (Nat.le_of_eq hg.symm)) hb)
               have n1_ := Aside0.mk (Kd.V_below (Kd.V_elderB (by (with_reducible repeat (first | apply Kd.V_alloc | apply Kd.V_drewN | apply Kd.V_drew)); exact HO_199001.out) gb218 (Nat.le_of_eq hg.symm)) hb)
               have n2_ := Aside0.mk (Kd.V_below (Kd.V_elderB (by (with_reducible repeat (first | apply Kd.V_alloc | apply Kd.V_drewN | apply Kd.V_drew)); exact HO_208000.out) gb218 (Nat.le_of_eq hg.symm)) hb)
               have n3_ := Aside0.mk (Kd.R_below (by (with_reducible repeat (first | apply Kd.R_alloc | apply Kd.R_drewN | apply Kd.R_drew)); exact HO_208001.out) hb)
               have n4_ := Aside0.mk (blk_below (g := gb198) (o := .cells #[.slice Ao11 t200.length co11, .slice Ao13 t203.length co13] 29 (0, 0)) (by (with_reducible repeat (first | refine blk_drewN ?_ _ | refine blk_drew ?_ | refine blk_alloc ?_ _)); exact BK198.out) hb)
               have n5_ := Aside0.mk (blk_below (g := gb207) (o := .cells #[.slice Ao11 t200.length co11, u208001] 29 (0, 0)) (by (with_reducible repeat (first | refine blk_drewN ?_ _ | refine blk_drew ?_ | refine blk_alloc ?_ _)); exact BK207.out) hb)
               have n6_ := Aside0.mk (below_step (by repeat (first | (with_reducible first | exact HB.out | apply below_alloc | apply pw_below_drewN | apply below_drew1 | refine below_set ?_ GE198.out | refine below_set ?_ GE207.out) | exact HB.out)) hb)
               have n7_ := Aside0.mk (hbox)
               have n8_ := Aside0.mk ((by rw [hg]; exact (below_size (by repeat (first | (with_reducible first | exact HB.out | apply below_alloc | apply pw_below_drewN | apply below_drew1 | refine below_set ?_ GE198.out | refine below_set ?_ GE207.out) | exact HB.out))) : w.heap.size ≤ gb218))
               have n9_ := Aside0.mk ((by rw [hg]; exact (below_size (by repeat (first | (with_reducible first | exact HB.out | apply below_alloc | apply pw_below_drewN | apply below_drew1 | refine below_set ?_ GE198.out | refine below_set ?_ GE207.out) | exact HB.out))) : w.heap.size ≤ gb218))
               have n10_ := Aside0.mk ((by rw [hg]; exact Nat.ne_of_lt (blk_lt (g := gb198) (o := .cells #[.slice Ao11 t200.length co11, .slice Ao13 t203.length co13] 29 (0, 0)) (by (with_reducible repeat (first | refine blk_drewN ?_ _ | refine blk_drew ?_ | refine blk_alloc ?_ _)); exact BK198.out)) : gb198 ≠ gb218))
               have n11_ := Aside0.mk ((by rw [hg]; exact Nat.ne_of_gt (blk_lt (g := gb198) (o := .cells #[.slice Ao11 t200.length co11, .slice Ao13 t203.length co13] 29 (0, 0)) (by (with_reducible repeat (first | refine blk_drewN ?_ _ | refine blk_drew ?_ | refine blk_alloc ?_ _)); exact BK198.out)) : gb218 ≠ gb198))
               have n12_ := Aside0.mk ((by rw [hg]; exact Nat.ne_of_lt (blk_lt (g := gb207) (o := .cells #[.slice Ao11 t200.length co11, u208001] 29 (0, 0)) (by (with_reducible repeat (first | refine blk_drewN ?_ _ | refine blk_drew ?_ | refine blk_alloc ?_ _)); exact BK207.out)) : gb207 ≠ gb218))
               have n13_ := Aside0.mk ((by rw [hg]; exact Nat.ne_of_gt (blk_lt (g := gb207) (o := .cells #[.slice Ao11 t200.length co11, u208001] 29 (0, 0)) (by (with_reducible repeat (first | refine blk_drewN ?_ _ | refine blk_drew ?_ | refine blk_alloc ?_ _)); exact BK207.out)) : gb218 ≠ gb207))
               clear HO_199000
               clear HO_199001
               clear HO_208000
               clear HO_208001
               clear BK198
               clear BK207
               clear HB
               have HO_199000 := n0_
               have HO_199001 := n1_
               have HO_208000 := n2_
               have HO_208001 := n3_
               have BK198 := n4_
               have BK207 := n5_
               have HB := n6_
               have BK218 := n7_
               have GW218 := n8_
               have GE218 := n9_
               have NB198_218 := n10_
               have NB218_198 := n11_
               have NB207_218 := n12_
               have NB218_207 := n13_
               clear n0_ n1_ n2_ n3_ n4_ n5_ n6_ n7_ n8_ n9_ n10_ n11_ n12_ n13_
               clear hb hbox hg
               refine hK.out _ _ ⟨(blk_cell BK198.out 0).trans rfl, (blk_cell BK198.out 1).trans rfl⟩ (fun hHeld => ?_)
               clear hK K
               refine norm_ (a' := ?_) ?_ ?_
               rotate_left
               ·show Act.put _ (some 10) _ = _
                simp only [Act.put, List.setIfInBounds_toArray, List.set_cons_zero, List.set_cons_succ, i64_w, i32_w]
                rfl
               refine one_ (i := 0) (N := some 50) #[true, true, true, false, true, true, false, true, false] rfl rfl (one_of HT_.out (by kernel_rfl)) (by decide) (fun K hK => ?_)
               refine Kd.R_lit_step k23 _ 23 ?hg (N := 50) ?hd (xs := ([] : List (S23))) (inner := []) (ok := fun _ => True) (okp := fun _ => True) ?hr ?hp (fun _ hk => hk) trivial (Below.refl _ _) (Nat.le_refl _) (by simp) ?_; (case hd => rfl); (case hg => rfl); (case hr => first | (go_simp; done) | (go_simp; rfl)); (case hp => exact (Reps.none _ _))
               intro v213 w49 ho50 hb hg_ hnew_
               clear hg_ hnew_
               (first | rw [← Ny212.out] at ho50 | (simp only [Int.reduceToNat] at ho50; rw [← Ny212.out] at ho50))
               have n0_ := Aside0.mk (Kd.V_elder' (by (with_reducible repeat (first | apply Kd.V_alloc | apply Kd.V_drewN | apply Kd.V_drew)); exact HO_199000.out) (Kd.R_base ho50) hb)
               have n1_ := Aside0.mk (Kd.V_elder' (by (with_reducible repeat (first | apply Kd.V_alloc | apply Kd.V_drewN | apply Kd.V_drew)); exact HO_199001.out) (Kd.R_base ho50) hb)
               have n2_ := Aside0.mk (Kd.V_elder' (by (with_reducible repeat (first | apply Kd.V_alloc | apply Kd.V_drewN | apply Kd.V_drew)); exact HO_208000.out) (Kd.R_base ho50) hb)
               have n3_ := Aside0.mk (Kd.R_below (by (with_reducible repeat (first | apply Kd.R_alloc | apply Kd.R_drewN | apply Kd.R_drew)); exact HO_208001.out) hb)
               have n4_ := Aside0.mk (Kd.R_lower ho50 (below_size (by repeat (first | (with_reducible first | exact HB.out | apply below_alloc | apply pw_below_drewN | apply below_drew1 | refine below_set ?_ GE198.out | refine below_set ?_ GE207.out | refine below_set ?_ GE218.out) | exact HB.out))))
               have n5_ := Aside0.mk (blk_below (g := gb198) (o := .cells #[.slice Ao11 t200.length co11, .slice Ao13 t203.length co13] 29 (0, 0)) (by (with_reducible repeat (first | refine blk_drewN ?_ _ | refine blk_drew ?_ | refine blk_alloc ?_ _)); exact BK198.out) hb)
               have n6_ := Aside0.mk (blk_below (g := gb207) (o := .cells #[.slice Ao11 t200.length co11, u208001] 29 (0, 0)) (by (with_reducible repeat (first | refine blk_drewN ?_ _ | refine blk_drew ?_ | refine blk_alloc ?_ _)); exact BK207.out) hb)
               have n7_ := Aside0.mk (blk_below (g := gb218) (o := .cells #[.slice none 0 0, .slice none 0 0] 29 (0, 0)) (by (with_reducible repeat (first | refine blk_drewN ?_ _ | refine blk_drew ?_ | refine blk_alloc ?_ _)); exact BK218.out) hb)
               have n8_ := Aside0.mk (below_step (by repeat (first | (with_reducible first | exact HB.out | apply below_alloc | apply pw_below_drewN | apply below_drew1 | refine below_set ?_ GE198.out | refine below_set ?_ GE207.out | refine below_set ?_ GE218.out) | exact HB.out)) hb)
               clear HO_199000
               clear HO_199001
               clear HO_208000
               clear HO_208001
               clear BK198
               clear BK207
               clear BK218
               clear HB
               have HO_199000 := n0_
               have HO_199001 := n1_
               have HO_208000 := n2_
               have HO_208001 := n3_
               have HO214 := n4_
               have BK198 := n5_
               have BK207 := n6_
               have BK218 := n7_
               have HB := n8_
               clear n0_ n1_ n2_ n3_ n4_ n5_ n6_ n7_ n8_
               clear hb ho50
               refine hK.out _ _ ⟨(blk_cell BK198.out 0).trans rfl, (blk_cell BK198.out 1).trans rfl⟩ (fun hHeld => ?_)
               clear hK K
               refine norm_ (a' := ?_) ?_ ?_
               rotate_left
               ·show Act.put _ (some 50) _ = _
                simp only [Act.put, List.setIfInBounds_toArray, List.set_cons_zero, List.set_cons_succ, i64_w, i32_w]
                rfl
               refine one_ (i := 3) (N := some 53) #[true, true, true, true, true, true, false, true, false] rfl rfl (one_of HT_.out (by kernel_rfl)) (by decide) (fun K hK => ?_)
               refine Kd.R_append_rows_step k23 (w0 := w) w.heap.size (by rfl) (.tmp 50) (.tmp 52) 26 23 (.agg #[(.int .i64 0), (.int .i64 0), (.int .i64 0), (.int .i64 0)]) 32 rfl Try.underlying26 info23 rfl (by decide) (by omega) v213 y212 t200 _ _ _ (fun _ => True) (fun _ => False) rfl rfl ?aO ?aR (fun _ _ h => h) (fun _ h => h.elim) ?aF ?aB ?aS ?aL ?_
               (case aR => repeat (first | exact (Kd.V_reads' HO_199000.out).2.2 | (with_reducible refine Kd.C_alloc ?_ _) | (with_reducible refine Kd.C_drewN ?_ _) | (with_reducible refine Kd.C_drew ?_)))
               (case aB => exact (by repeat (first | (with_reducible first | exact HB.out | apply below_alloc | apply pw_below_drewN | apply below_drew1 | refine below_set ?_ GE198.out | refine below_set ?_ GE207.out | refine below_set ?_ GE218.out) | exact HB.out)))
               (case aF => exact (fun _ _ => trivial))
               (case aO => exact (by (with_reducible repeat (first | apply Kd.R_alloc | apply Kd.R_drewN | apply Kd.R_drew)); exact HO214.out))
               (case aS => exact (below_size (by repeat (first | (with_reducible first | exact HB.out | apply below_alloc | apply pw_below_drewN | apply below_drew1 | refine below_set ?_ GE198.out | refine below_set ?_ GE207.out | refine below_set ?_ GE218.out) | exact HB.out))))
               (case aL => have := LMc38.out; omega)
               intro v216 w51 ho hb hg hat
               rw [← Ny215.out] at ho
               have n0_ := Aside0.mk (Kd.V_afterv (ok := (fun k_ => some k_ ≠ (u208001 : Value).ownBlock ∧ k_ ≠ gb198 ∧ k_ ≠ gb207 ∧ k_ ≠ gb218)) (by (with_reducible repeat (first | apply Kd.V_alloc | apply Kd.V_drewN | apply Kd.V_drew)); exact Kd.V_mono HO_199000.out (fun _ hk => ⟨⟨hk.1.1.1, ⟨hk.1.1.2.1, ⟨hk.1.1.2.2, hk.1.2⟩⟩⟩, hk.2⟩)) hg hat)
               have n1_ := Aside0.mk (Kd.V_afterv (ok := (fun k_ => some k_ ≠ (u208001 : Value).ownBlock ∧ k_ ≠ gb198 ∧ k_ ≠ gb207 ∧ k_ ≠ gb218)) (by (with_reducible repeat (first | apply Kd.V_alloc | apply Kd.V_drewN | apply Kd.V_drew)); exact Kd.V_mono HO_199001.out (fun _ hk => ⟨⟨hk.1.1.1, ⟨hk.1.1.2.1, ⟨hk.1.1.2.2, hk.1.2⟩⟩⟩, hk.2⟩)) hg hat)
               have n2_ := Aside0.mk (Kd.V_afterv (ok := (fun k_ => some k_ ≠ (u208001 : Value).ownBlock ∧ k_ ≠ gb198 ∧ k_ ≠ gb207 ∧ k_ ≠ gb218)) (by (with_reducible repeat (first | apply Kd.V_alloc | apply Kd.V_drewN | apply Kd.V_drew)); exact Kd.V_mono HO_208000.out (fun _ hk => ⟨⟨hk.1.1.1, ⟨hk.1.1.2.1, ⟨hk.1.1.2.2, hk.1.2⟩⟩⟩, hk.2⟩)) hg hat)
               have n3_ := Aside0.mk (Kd.R_over' (by (with_reducible repeat (first | apply Kd.R_alloc | apply Kd.R_drewN | apply Kd.R_drew)); exact HO_208001.out) (Kd.R_typed (by (with_reducible repeat (first | apply Kd.R_alloc | apply Kd.R_drewN | apply Kd.R_drew)); exact HO214.out)) (by decide) hg)
               have n4_ := Aside0.mk (blk_grown (g := gb198) (o := .cells #[.slice Ao11 t200.length co11, .slice Ao13 t203.length co13] 29 (0, 0)) (by (with_reducible repeat (first | refine blk_drewN ?_ _ | refine blk_drew ?_ | refine blk_alloc ?_ _)); exact BK198.out) hg (Kd.R_ne HO214.out BK198.out (by decide)))
               have n5_ := Aside0.mk (blk_grown (g := gb207) (o := .cells #[.slice Ao11 t200.length co11, u208001] 29 (0, 0)) (by (with_reducible repeat (first | refine blk_drewN ?_ _ | refine blk_drew ?_ | refine blk_alloc ?_ _)); exact BK207.out) hg (Kd.R_ne HO214.out BK207.out (by decide)))
               have n6_ := Aside0.mk (blk_grown (g := gb218) (o := .cells #[.slice none 0 0, .slice none 0 0] 29 (0, 0)) (by (with_reducible repeat (first | refine blk_drewN ?_ _ | refine blk_drew ?_ | refine blk_alloc ?_ _)); exact BK218.out) hg (Kd.R_ne HO214.out BK218.out (by decide)))
               have n7_ := Aside0.mk (hb)
               have n8_ := Aside0.mk (ho)
               clear HO_199000
               clear HO_199001
               clear HO_208000
               clear HO_208001
               clear BK198
               clear BK207
               clear BK218
               clear HB
               clear HO214
               have HO_199000 := n0_
               have HO_199001 := n1_
               have HO_208000 := n2_
               have HO_208001 := n3_
               have BK198 := n4_
               have BK207 := n5_
               have BK218 := n6_
               have HB := n7_
               have HO217 := n8_
               clear n0_ n1_ n2_ n3_ n4_ n5_ n6_ n7_ n8_
               clear ho hb hg hat
               obtain ⟨Ao52, co52, eo52⟩ := Kd.R_slice HO217.out
               (first | subst eo52 | (injection eo52 with f1_ f2_ f3_; have f4_ := f1_.symm; have f5_ := f3_.symm; clear f1_ f2_ f3_; subst f4_; subst f5_))
               refine hK.out _ _ ⟨(blk_cell BK198.out 0).trans rfl, (blk_cell BK198.out 1).trans rfl⟩ (fun hHeld => ?_)
               clear hK K
               refine norm_ (a' := ?_) ?_ ?_
               rotate_left
               ·show Act.put _ (some 53) _ = _
                simp only [Act.put, List.setIfInBounds_toArray, List.set_cons_zero, List.set_cons_succ, i64_w, i32_w]
                rfl
               refine pure_ (i := 6) (N := some 56) (v := ?_) (a' := ?_) #[true, true, true, true, true, true, true, true, false] rfl rfl (any_of HT_.out (by kernel_rfl)) (fun _ _ _ h => h) (Or.inl ⟨by rfl, ?_⟩) ?_ ?_
               rotate_left
               ·intro w'
                go_simp
                with_reducible rfl
               rotate_left
               ·simp only [Act.put, List.setIfInBounds_toArray, List.set_cons_zero, List.set_cons_succ, i64_w, i32_w]
                rfl
               exact norm_ (by simp only [putAll, Act.put, List.setIfInBounds_toArray, List.set_cons_zero, List.set_cons_succ]) (hCont (v213, .slice Ao52 y215.length co52, gb218) _ ⟨hHeld, (by (with_reducible repeat (first | apply Kd.R_alloc | apply Kd.R_drewN | apply Kd.R_drew)); exact HO217.out), (by (with_reducible repeat (first | apply Kd.V_alloc | apply Kd.V_drewN | apply Kd.V_drew)); exact Kd.V_mono HO_199000.out (fun _ hk => ⟨hk.2, ⟨hk.1.1, ⟨hk.1.2.1, ⟨hk.1.2.2.1, hk.1.2.2.2⟩⟩⟩⟩)), (by (with_reducible repeat (first | apply Kd.V_alloc | apply Kd.V_drewN | apply Kd.V_drew)); exact Kd.V_mono HO_199001.out (fun _ hk => ⟨hk.2, ⟨hk.1.1, ⟨hk.1.2.1, ⟨hk.1.2.2.1, hk.1.2.2.2⟩⟩⟩⟩)), (by (with_reducible repeat (first | apply Kd.V_alloc | apply Kd.V_drewN | apply Kd.V_drew)); exact Kd.V_mono HO_208000.out (fun _ hk => ⟨hk.2, ⟨hk.1.1, ⟨hk.1.2.1, ⟨hk.1.2.2.1, hk.1.2.2.2⟩⟩⟩⟩)), (by (with_reducible repeat (first | apply Kd.R_alloc | apply Kd.R_drewN | apply Kd.R_drew)); exact HO_208001.out), (by (with_reducible repeat (first | refine blk_drewN ?_ _ | refine blk_drew ?_ | refine blk_alloc ?_ _)); exact BK198.out), (by (with_reducible repeat (first | refine blk_drewN ?_ _ | refine blk_drew ?_ | refine blk_alloc ?_ _)); exact BK207.out), (by (with_reducible repeat (first | refine blk_drewN ?_ _ | refine blk_drew ?_ | refine blk_alloc ?_ _)); exact BK218.out), GW218.out, GE218.out, NB198_218.out, NB218_198.out, NB207_218.out, NB218_207.out, (by repeat (first | (with_reducible first | exact HB.out | apply below_alloc | apply pw_below_drewN | apply below_drew1 | refine below_set ?_ GE198.out | refine below_set ?_ GE207.out | refine below_set ?_ GE218.out) | exact HB.out))⟩)
             rintro ⟨v213, v216, gb218⟩ w53 ⟨hS_, h0_, h1_, h2_, h3_, h4_, h5_, h6_, h7_, h8_, h9_, h10_, h11_, h12_, h13_, h14_⟩
             have n0_ : Aside0 (Kd.R k23 23 w53 w.heap.size (fun _ => True) v216 y215) := ⟨h0_⟩
             have n1_ : Aside0 (Kd.V k23 23 w53 w.heap.size (fun k_ => some k_ ≠ (v216 : Value).ownBlock ∧ some k_ ≠ (u208001 : Value).ownBlock ∧ k_ ≠ gb198 ∧ k_ ≠ gb207 ∧ k_ ≠ gb218) (.slice Ao11 t200.length co11) t200) := ⟨h1_⟩
             have n2_ : Aside0 (Kd.V k36 36 w53 w.heap.size (fun k_ => some k_ ≠ (v216 : Value).ownBlock ∧ some k_ ≠ (u208001 : Value).ownBlock ∧ k_ ≠ gb198 ∧ k_ ≠ gb207 ∧ k_ ≠ gb218) (.slice Ao13 t203.length co13) t203) := ⟨h2_⟩
             have n3_ : Aside0 (Kd.V k23 23 w53 w.heap.size (fun k_ => some k_ ≠ (v216 : Value).ownBlock ∧ some k_ ≠ (u208001 : Value).ownBlock ∧ k_ ≠ gb198 ∧ k_ ≠ gb207 ∧ k_ ≠ gb218) (.slice Ao11 t200.length co11) t200) := ⟨h3_⟩
             have n4_ : Aside0 (Kd.R k36 36 w53 w.heap.size (fun _ => True) u208001 x208001_2) := ⟨h4_⟩
             have n5_ : Aside0 (w53.heap[gb198]? = some (.cells #[.slice Ao11 t200.length co11, .slice Ao13 t203.length co13] 29 (0, 0))) := ⟨h5_⟩
             have n6_ : Aside0 (w53.heap[gb207]? = some (.cells #[.slice Ao11 t200.length co11, u208001] 29 (0, 0))) := ⟨h6_⟩
             have n7_ : Aside0 (w53.heap[gb218]? = some (.cells #[.slice none 0 0, .slice none 0 0] 29 (0, 0))) := ⟨h7_⟩
             have n8_ : Aside0 (w.heap.size ≤ gb218) := ⟨h8_⟩
             have n9_ : Aside0 (w.heap.size ≤ gb218) := ⟨h9_⟩
             have n10_ : Aside0 (gb198 ≠ gb218) := ⟨h10_⟩
             have n11_ : Aside0 (gb218 ≠ gb198) := ⟨h11_⟩
             have n12_ : Aside0 (gb207 ≠ gb218) := ⟨h12_⟩
             have n13_ : Aside0 (gb218 ≠ gb207) := ⟨h13_⟩
             have n14_ : Aside0 (Below w.heap.size w w53) := ⟨h14_⟩
             clear HO_199000
             clear HO_199001
             clear HO_208000
             clear HO_208001
             clear BK198
             clear BK207
             clear HB
             clear h0_ h1_ h2_ h3_ h4_ h5_ h6_ h7_ h8_ h9_ h10_ h11_ h12_ h13_ h14_
             have HO217 := n0_
             have HO_199000 := n1_
             have HO_199001 := n2_
             have HO_208000 := n3_
             have HO_208001 := n4_
             have BK198 := n5_
             have BK207 := n6_
             have BK218 := n7_
             have GW218 := n8_
             have GE218 := n9_
             have NB198_218 := n10_
             have NB218_198 := n11_
             have NB207_218 := n12_
             have NB218_207 := n13_
             have HB := n14_
             clear n0_ n1_ n2_ n3_ n4_ n5_ n6_ n7_ n8_ n9_ n10_ n11_ n12_ n13_ n14_
             have hHeld : w53.cell? ⟨gb198, 0, none⟩ = some (.slice Ao11 t200.length co11) ∧ w53.cell? ⟨gb198, 1, none⟩ = some (.slice Ao13 t203.length co13) := hS_
             obtain ⟨Ao54, co54, eo54⟩ := Kd.R_slice HO217.out
             (first | subst eo54 | (injection eo54 with f1_ f2_ f3_; have f4_ := f1_.symm; have f5_ := f3_.symm; clear f1_ f2_ f3_; subst f4_; subst f5_))
             refine norm_ (a' := ?_) ?_ ?_
             rotate_left
             ·simp only [putAll, Act.put, List.setIfInBounds_toArray, List.set_cons_zero, List.set_cons_succ]
              rfl
             refine one_ (i := 8) (N := none) #[true, true, true, true, true, true, true, true, true] rfl rfl (one_of HT_.out (by kernel_rfl)) (by decide) (fun K hK => ?_)
             have hs55 : w53.cell? ⟨gb218, 0, none⟩ = some (.slice none 0 0) := (blk_cell BK218.out 0).trans rfl
             have hfs55 := blk_frozen BK218.out 0
             have hns55_0 := NB198_218.out
             have hns55_1 := NB207_218.out
             have hms55_0 := NB218_198.out
             have hms55_1 := NB218_207.out
             have hs56 : w53.cell? ⟨gb218, 1, none⟩ = some (.slice none 0 0) := (blk_cell BK218.out 1).trans rfl
             have hfs56 := blk_frozen BK218.out 1
             have hns56_0 := NB198_218.out
             have hns56_1 := NB207_218.out
             have hms56_0 := NB218_198.out
             have hms56_1 := NB218_207.out
             refine skip_ (w1 := ?_) (by rfl) rfl ?_ ?_
             rotate_left
             ·go_simp
              rfl
             refine hK.out _ _ ⟨((cell_far (p := ⟨gb218, _, none⟩) NB198_218.out _).trans (((cell_far (p := ⟨gb218, _, none⟩) NB198_218.out _).trans (hHeld.1)))), ((cell_far (p := ⟨gb218, _, none⟩) NB198_218.out _).trans (((cell_far (p := ⟨gb218, _, none⟩) NB198_218.out _).trans (hHeld.2))))⟩ (fun hHeld => ?_)
             clear hK K
             refine done_ (done_of HT_.out (by kernel_rfl)) ?_
             have n0_ : Aside0 (Kd.V k23 23 ((w53.setCell ⟨gb218, 0, none⟩ (.slice Ao54 y215.length co54)).setCell ⟨gb218, 1, none⟩ (.slice Ao13 t203.length co13)) w.heap.size (fun k_ => some k_ ≠ (u208001 : Value).ownBlock ∧ some k_ ≠ (.slice Ao54 y215.length co54 : Value).ownBlock ∧ k_ ≠ gb198 ∧ k_ ≠ gb207 ∧ k_ ≠ gb218) (.slice Ao11 t200.length co11) t200) := ⟨by (with_reducible repeat (first | apply Kd.V_alloc | apply Kd.V_drewN | apply Kd.V_drew)); exact Kd.V_mono (Kd.V_far (p := ⟨gb218, 1, none⟩) (Kd.V_far (p := ⟨gb218, 0, none⟩) (Kd.V_mono HO_199000.out (fun k_ hk => (⟨hk, hk.2.2.2.2⟩ : _ ∧ k_ ≠ gb218))) (fun _ hk => hk.2) (.slice Ao54 y215.length co54)) (fun _ hk => hk.2) (.slice Ao13 t203.length co13)) (fun _ hk => ⟨hk.1.2.1, ⟨hk.1.1, ⟨hk.1.2.2.1, ⟨hk.1.2.2.2.1, hk.1.2.2.2.2⟩⟩⟩⟩)⟩
             have n1_ : Aside0 (Kd.V k36 36 ((w53.setCell ⟨gb218, 0, none⟩ (.slice Ao54 y215.length co54)).setCell ⟨gb218, 1, none⟩ (.slice Ao13 t203.length co13)) w.heap.size (fun k_ => some k_ ≠ (u208001 : Value).ownBlock ∧ some k_ ≠ (.slice Ao54 y215.length co54 : Value).ownBlock ∧ k_ ≠ gb198 ∧ k_ ≠ gb207 ∧ k_ ≠ gb218) (.slice Ao13 t203.length co13) t203) := ⟨by (with_reducible repeat (first | apply Kd.V_alloc | apply Kd.V_drewN | apply Kd.V_drew)); exact Kd.V_mono (Kd.V_far (p := ⟨gb218, 1, none⟩) (Kd.V_far (p := ⟨gb218, 0, none⟩) (Kd.V_mono HO_199001.out (fun k_ hk => (⟨hk, hk.2.2.2.2⟩ : _ ∧ k_ ≠ gb218))) (fun _ hk => hk.2) (.slice Ao54 y215.length co54)) (fun _ hk => hk.2) (.slice Ao13 t203.length co13)) (fun _ hk => ⟨hk.1.2.1, ⟨hk.1.1, ⟨hk.1.2.2.1, ⟨hk.1.2.2.2.1, hk.1.2.2.2.2⟩⟩⟩⟩)⟩
             have n2_ : Aside0 (Kd.V k23 23 ((w53.setCell ⟨gb218, 0, none⟩ (.slice Ao54 y215.length co54)).setCell ⟨gb218, 1, none⟩ (.slice Ao13 t203.length co13)) w.heap.size (fun k_ => some k_ ≠ (u208001 : Value).ownBlock ∧ some k_ ≠ (.slice Ao54 y215.length co54 : Value).ownBlock ∧ k_ ≠ gb198 ∧ k_ ≠ gb207 ∧ k_ ≠ gb218) (.slice Ao11 t200.length co11) t200) := ⟨by (with_reducible repeat (first | apply Kd.V_alloc | apply Kd.V_drewN | apply Kd.V_drew)); exact Kd.V_mono (Kd.V_far (p := ⟨gb218, 1, none⟩) (Kd.V_far (p := ⟨gb218, 0, none⟩) (Kd.V_mono HO_208000.out (fun k_ hk => (⟨hk, hk.2.2.2.2⟩ : _ ∧ k_ ≠ gb218))) (fun _ hk => hk.2) (.slice Ao54 y215.length co54)) (fun _ hk => hk.2) (.slice Ao13 t203.length co13)) (fun _ hk => ⟨hk.1.2.1, ⟨hk.1.1, ⟨hk.1.2.2.1, ⟨hk.1.2.2.2.1, hk.1.2.2.2.2⟩⟩⟩⟩)⟩
             have n3_ : Aside0 (Kd.R k36 36 ((w53.setCell ⟨gb218, 0, none⟩ (.slice Ao54 y215.length co54)).setCell ⟨gb218, 1, none⟩ (.slice Ao13 t203.length co13)) w.heap.size (fun _ => True) u208001 x208001_2) := ⟨by (with_reducible repeat (first | apply Kd.R_alloc | apply Kd.R_drewN | apply Kd.R_drew)); exact Kd.R_mono (Kd.R_far (p := ⟨gb218, 1, none⟩) (Kd.R_far (p := ⟨gb218, 0, none⟩) (Kd.R_types HO_208001.out BK218.out (by decide)) (fun _ hk => hk.2) (.slice Ao54 y215.length co54)) (fun _ hk => hk.2) (.slice Ao13 t203.length co13)) (fun _ hk => trivial)⟩
             have n4_ : Aside0 (Kd.R k23 23 ((w53.setCell ⟨gb218, 0, none⟩ (.slice Ao54 y215.length co54)).setCell ⟨gb218, 1, none⟩ (.slice Ao13 t203.length co13)) w.heap.size (fun _ => True) (.slice Ao54 y215.length co54) y215) := ⟨by (with_reducible repeat (first | apply Kd.R_alloc | apply Kd.R_drewN | apply Kd.R_drew)); exact Kd.R_mono (Kd.R_far (p := ⟨gb218, 1, none⟩) (Kd.R_far (p := ⟨gb218, 0, none⟩) (Kd.R_types HO217.out BK218.out (by decide)) (fun _ hk => hk.2) (.slice Ao54 y215.length co54)) (fun _ hk => hk.2) (.slice Ao13 t203.length co13)) (fun _ hk => trivial)⟩
             have n5_ : Aside0 (((w53.setCell ⟨gb218, 0, none⟩ (.slice Ao54 y215.length co54)).setCell ⟨gb218, 1, none⟩ (.slice Ao13 t203.length co13)).heap[gb198]? = some (.cells #[.slice Ao11 t200.length co11, .slice Ao13 t203.length co13] 29 (0, 0))) := ⟨by (with_reducible repeat (first | refine blk_drewN ?_ _ | refine blk_drew ?_ | refine blk_alloc ?_ _)); refine blk_far ?_ NB198_218.out _; (with_reducible repeat (first | refine blk_drewN ?_ _ | refine blk_drew ?_ | refine blk_alloc ?_ _)); refine blk_far ?_ NB198_218.out _; (with_reducible repeat (first | refine blk_drewN ?_ _ | refine blk_drew ?_ | refine blk_alloc ?_ _)); exact BK198.out⟩
             have n6_ : Aside0 (((w53.setCell ⟨gb218, 0, none⟩ (.slice Ao54 y215.length co54)).setCell ⟨gb218, 1, none⟩ (.slice Ao13 t203.length co13)).heap[gb207]? = some (.cells #[.slice Ao11 t200.length co11, u208001] 29 (0, 0))) := ⟨by (with_reducible repeat (first | refine blk_drewN ?_ _ | refine blk_drew ?_ | refine blk_alloc ?_ _)); refine blk_far ?_ NB207_218.out _; (with_reducible repeat (first | refine blk_drewN ?_ _ | refine blk_drew ?_ | refine blk_alloc ?_ _)); refine blk_far ?_ NB207_218.out _; (with_reducible repeat (first | refine blk_drewN ?_ _ | refine blk_drew ?_ | refine blk_alloc ?_ _)); exact BK207.out⟩
             have n7_ : Aside0 (((w53.setCell ⟨gb218, 0, none⟩ (.slice Ao54 y215.length co54)).setCell ⟨gb218, 1, none⟩ (.slice Ao13 t203.length co13)).heap[gb218]? = some (.cells #[.slice Ao54 y215.length co54, .slice Ao13 t203.length co13] 29 (0, 0))) := ⟨by (with_reducible repeat (first | refine blk_drewN ?_ _ | refine blk_drew ?_ | refine blk_alloc ?_ _)); refine blk_put (cs := #[.slice Ao54 y215.length co54, .slice none 0 0]) ?_ 1 _ rfl; (with_reducible repeat (first | refine blk_drewN ?_ _ | refine blk_drew ?_ | refine blk_alloc ?_ _)); refine blk_put (cs := #[.slice none 0 0, .slice none 0 0]) ?_ 0 _ rfl; (with_reducible repeat (first | refine blk_drewN ?_ _ | refine blk_drew ?_ | refine blk_alloc ?_ _)); exact BK218.out⟩
             have n8_ : Aside0 (Below w.heap.size w ((w53.setCell ⟨gb218, 0, none⟩ (.slice Ao54 y215.length co54)).setCell ⟨gb218, 1, none⟩ (.slice Ao13 t203.length co13))) := ⟨by repeat (first | (with_reducible first | exact HB.out | apply below_alloc | apply pw_below_drewN | apply below_drew1 | refine below_set ?_ GE198.out | refine below_set ?_ GE207.out | refine below_set ?_ GE218.out) | exact HB.out)⟩
             (try clear HO_199000)
             (try clear HO_199001)
             (try clear HO_208000)
             (try clear HO_208001)
             (try clear HO217)
             (try clear BK198)
             (try clear BK207)
             (try clear BK218)
             (try clear HB)
             generalize ((w53.setCell ⟨gb218, 0, none⟩ (.slice Ao54 y215.length co54)).setCell ⟨gb218, 1, none⟩ (.slice Ao13 t203.length co13)) = w57 at n0_ n1_ n2_ n3_ n4_ n5_ n6_ n7_ n8_ ⊢
             have HO_199000 := n0_
             have HO_199001 := n1_
             have HO_208000 := n2_
             have HO_208001 := n3_
             have HO217 := n4_
             have BK198 := n5_
             have BK207 := n6_
             have BK218 := n7_
             have HB := n8_
             clear n0_ n1_ n2_ n3_ n4_ n5_ n6_ n7_ n8_
             have hnb58 := NB218_198.out
             have hnc58 := NB198_218.out
             have hnb59 := NB218_207.out
             have hnc59 := NB207_218.out
             have hcz60_0 : w57.cell? ⟨gb218, 0, none⟩ = some (.slice Ao54 y215.length co54) := (blk_cell BK218.out 0).trans rfl
             have hcz60_1 : w57.cell? ⟨gb218, 1, none⟩ = some (.slice Ao13 t203.length co13) := (blk_cell BK218.out 1).trans rfl
             have hfz60_0 := blk_frozen BK218.out 0
             have hfz60_1 := blk_frozen BK218.out 1
             have p42 : 0 ≤ (a1 : Int) := of_decide_eq_true (by first | (with_reducible assumption) | assumption)
             have q42 : (a1 : Int) < ((y215.length : Int) : Int) := of_decide_eq_true (by first | (with_reducible assumption) | assumption)
             obtain ⟨go42, co42, eo42, gb42, gl42, cl42, HG42⟩ := Kd.R_form HO217.out (by omega)
             (first | cases eo42 | (injection eo42 with ea_ en_ ec_; (first | subst ea_ | (injection ea_ with ea_; subst ea_)); subst ec_; clear en_))
             have GB42 := Aside0.mk gb42
             have GG42 := Aside0.mk HG42
             clear gb42 gl42 HG42
             obtain ⟨ce42, hcl42, hM42, hcc42, hfr42⟩ := Kd.R_elem HO217.out z23 (a1 : Int) p42 q42
             obtain rfl := k23_openM hM42
             have hx42_0 : w57.cell? ⟨go42, (a1 : Int).toNat * 4, none⟩ = some (.int .i64 ((rd_T23 y215 a1).f0)) := hcc42 0 _ rfl
             have hx42_1 : w57.cell? ⟨go42, (a1 : Int).toNat * 4 + 1, none⟩ = some (.int .i64 ((rd_T23 y215 a1).f1)) := hcc42 1 _ rfl
             have hx42_2 : w57.cell? ⟨go42, (a1 : Int).toNat * 4 + 2, none⟩ = some (.int .i64 ((rd_T23 y215 a1).f2)) := hcc42 2 _ rfl
             have hx42_3 : w57.cell? ⟨go42, (a1 : Int).toNat * 4 + 3, none⟩ = some (.int .i64 ((rd_T23 y215 a1).f3)) := hcc42 3 _ rfl
             have hf42_0 : w57.frozen? ⟨go42, (a1 : Int).toNat * 4, none⟩ = false := hfr42 0
             have hf42_1 : w57.frozen? ⟨go42, (a1 : Int).toNat * 4 + 1, none⟩ = false := hfr42 1
             have hf42_2 : w57.frozen? ⟨go42, (a1 : Int).toNat * 4 + 2, none⟩ = false := hfr42 2
             have hf42_3 : w57.frozen? ⟨go42, (a1 : Int).toNat * 4 + 3, none⟩ = false := hfr42 3
             clear hcl42 hcc42 hfr42 hM42
             replace p42 := eq_true p42
             replace q42 := eq_true q42
             have HX61 := Aside0.mk (show Kd.R k23 23 w57 w.heap.size (fun _ => True) (.slice (some ⟨go42, 0, none⟩) y215.length co54) y215 from (by (with_reducible repeat (first | apply Kd.R_alloc | apply Kd.R_drewN | apply Kd.R_drew)); exact HO217.out))
             obtain ⟨ce61, hcl61, hM61, hcc61, hfr61⟩ := Kd.R_elem HX61.out z23 (a1 : Int) (of_decide_eq_true (by first | (with_reducible assumption) | assumption)) (by have h_ : (a1 : Int) < ((y215.length : Int) : Int) := of_decide_eq_true (by first | (with_reducible assumption) | assumption); first | exact h_ | (have e_ := (Kd.R_reads' HO217.out).1; omega) | simpa using h_)
             obtain rfl := k23_openM hM61
             have HP61 := Kd.R_seg HX61.out (a1 : Int) (of_decide_eq_true (by first | (with_reducible assumption) | assumption)) (by have h_ : (a1 : Int) < ((y215.length : Int) : Int) := of_decide_eq_true (by first | (with_reducible assumption) | assumption); first | exact h_ | (have e_ := (Kd.R_reads' HO217.out).1; omega) | simpa using h_) (seg := [.int .i64 12]) (j := 0) hcl61 hcc61 (show 1 ≤ 4 from by decide) (x' := (⟨12, (rd_T23 y215 a1).f1, (rd_T23 y215 a1).f2, (rd_T23 y215 a1).f3⟩ : S23)) (k23_mkM _ _ _ (⟨12, (rd_T23 y215 a1).f1, (rd_T23 y215 a1).f2, (rd_T23 y215 a1).f3⟩ : S23) ) (fun _ hk => hk)
             have hx61_0 := hcc61 0 _ rfl
             (try simp only [show (k23).sz = 4 from rfl, Nat.mul_one, Nat.add_zero] at hx61_0)
             have hf61_0 := hfr61 0
             (try simp only [show (k23).sz = 4 from rfl, Nat.mul_one, Nat.add_zero] at hf61_0)
             clear hcl61 hcc61 hfr61 hM61
             try go_wp2_with (first | ((with_reducible refine gate_store (t := 3) (p := 65) rfl ?_); refine store_event (t := 3) (p := 65) (v := ?vo_w62) (w1 := (w57.setCell ⟨go42, (a1 : Int).toNat * 4, none⟩ (.int .i64 12))) ?hg ?ho ?hn ?hr ?_; (case ho => rfl); (case hg => rfl); (case hn => rfl); (case hr => first | (go_simp; done) | (go_simp; rfl)); intro w62 hw; have hg : w57.grownBy w62 (some go42) := (by rw [hw]; exact HP61.2); have hp_ : Kd.R k23 23 w62 w.heap.size (fun _ => True) (.slice (some ⟨go42, 0, none⟩) y215.length co54) y219 := (by rw [hw, Ny219.out]; exact HP61.1); clear HP61; have n0_ := Aside0.mk (Kd.V_afterv (v := (.slice (some ⟨go42, 0, none⟩) y215.length co54)) (v1 := (.slice (some ⟨go42, 0, none⟩) y215.length co54)) (ok := (fun k_ => some k_ ≠ (u208001 : Value).ownBlock ∧ k_ ≠ gb198 ∧ k_ ≠ gb207 ∧ k_ ≠ gb218)) (by (with_reducible repeat (first | apply Kd.V_alloc | apply Kd.V_drewN | apply Kd.V_drew)); exact Kd.V_mono HO_199000.out (fun _ hk => ⟨⟨hk.1, ⟨hk.2.2.1, ⟨hk.2.2.2.1, hk.2.2.2.2⟩⟩⟩, hk.2.1⟩)) hg (.inl rfl)); have n1_ := Aside0.mk (Kd.V_afterv (v := (.slice (some ⟨go42, 0, none⟩) y215.length co54)) (v1 := (.slice (some ⟨go42, 0, none⟩) y215.length co54)) (ok := (fun k_ => some k_ ≠ (u208001 : Value).ownBlock ∧ k_ ≠ gb198 ∧ k_ ≠ gb207 ∧ k_ ≠ gb218)) (by (with_reducible repeat (first | apply Kd.V_alloc | apply Kd.V_drewN | apply Kd.V_drew)); exact Kd.V_mono HO_199001.out (fun _ hk => ⟨⟨hk.1, ⟨hk.2.2.1, ⟨hk.2.2.2.1, hk.2.2.2.2⟩⟩⟩, hk.2.1⟩)) hg (.inl rfl)); have n2_ := Aside0.mk (Kd.V_afterv (v := (.slice (some ⟨go42, 0, none⟩) y215.length co54)) (v1 := (.slice (some ⟨go42, 0, none⟩) y215.length co54)) (ok := (fun k_ => some k_ ≠ (u208001 : Value).ownBlock ∧ k_ ≠ gb198 ∧ k_ ≠ gb207 ∧ k_ ≠ gb218)) (by (with_reducible repeat (first | apply Kd.V_alloc | apply Kd.V_drewN | apply Kd.V_drew)); exact Kd.V_mono HO_208000.out (fun _ hk => ⟨⟨hk.1, ⟨hk.2.2.1, ⟨hk.2.2.2.1, hk.2.2.2.2⟩⟩⟩, hk.2.1⟩)) hg (.inl rfl)); have n3_ := Aside0.mk (Kd.R_over' (v := (.slice (some ⟨go42, 0, none⟩) y215.length co54)) (by (with_reducible repeat (first | apply Kd.R_alloc | apply Kd.R_drewN | apply Kd.R_drew)); exact HO_208001.out) (Kd.R_typed HO217.out) (by decide) hg); have n4_ := Aside0.mk (blk_grown (g := gb198) (o := .cells #[.slice Ao11 t200.length co11, .slice Ao13 t203.length co13] 29 (0, 0)) (by (with_reducible repeat (first | refine blk_drewN ?_ _ | refine blk_drew ?_ | refine blk_alloc ?_ _)); exact BK198.out) hg (Kd.R_ne HO217.out BK198.out (by decide))); have n5_ := Aside0.mk (blk_grown (g := gb207) (o := .cells #[.slice Ao11 t200.length co11, u208001] 29 (0, 0)) (by (with_reducible repeat (first | refine blk_drewN ?_ _ | refine blk_drew ?_ | refine blk_alloc ?_ _)); exact BK207.out) hg (Kd.R_ne HO217.out BK207.out (by decide))); have n6_ := Aside0.mk (hp_); have n7_ := Aside0.mk (blk_grown (g := gb218) (o := .cells #[.slice (some ⟨go42, 0, none⟩) y215.length co54, .slice Ao13 t203.length co13] 29 (0, 0)) (by (with_reducible repeat (first | refine blk_drewN ?_ _ | refine blk_drew ?_ | refine blk_alloc ?_ _)); exact BK218.out) hg (Kd.R_ne HO217.out BK218.out (by decide))); have n8_ := Aside0.mk ((by rw [hw]; exact below_set (HB.out) GB42.out : Below w.heap.size w w62)); clear HO_199000; clear HO_199001; clear HO_208000; clear HO_208001; clear BK198; clear BK207; clear HO217; clear BK218; clear HB; have HO_199000 := n0_; have HO_199001 := n1_; have HO_208000 := n2_; have HO_208001 := n3_; have BK198 := n4_; have BK207 := n5_; have HO217 := n6_; have BK218 := n7_; have HB := n8_; clear n0_ n1_ n2_ n3_ n4_ n5_ n6_ n7_ n8_; clear hg hw hp_; have hnb63 := NB207_198.out; have hnc63 := NB198_207.out; have hcz64_0 : w62.cell? ⟨gb207, 0, none⟩ = some (.slice Ao11 t200.length co11) := (blk_cell BK207.out 0).trans rfl; have hcz64_1 : w62.cell? ⟨gb207, 1, none⟩ = some (u208001) := (blk_cell BK207.out 1).trans rfl; have hfz64_0 := blk_frozen BK207.out 0; have hfz64_1 := blk_frozen BK207.out 1; obtain ⟨Ao65, co65, eo65⟩ := Kd.R_slice HO_208001.out; subst eo65) | (go_at_call 13; (with_reducible refine (valid_Graph.calls k2 _ _ t200 _ _ x208001_2 t220 _ ?side1 ?side2 ?side3 ?side4 A44.out).mono ?_); (case side1 => repeat (first | exact (Kd.V_reads' HO_208000.out).2.2 | (with_reducible refine Kd.C_alloc ?_ _) | (with_reducible refine Kd.C_drewN ?_ _) | (with_reducible refine Kd.C_drew ?_))); (case side2 => exact (Kd.V_reads' HO_208000.out).2.1); (case side3 => repeat (first | exact (Kd.R_reads' HO_208001.out).2.2 | (with_reducible refine Kd.C_alloc ?_ _) | (with_reducible refine Kd.C_drewN ?_ _) | (with_reducible refine Kd.C_drew ?_))); (case side4 => exact (Kd.R_reads' HO_208001.out).2.1); rintro e w66 ⟨rfl, hb⟩; have n0_ := Aside0.mk (Kd.V_below (by (with_reducible repeat (first | apply Kd.V_alloc | apply Kd.V_drewN | apply Kd.V_drew)); exact HO_199000.out) hb); have n1_ := Aside0.mk (Kd.V_below (by (with_reducible repeat (first | apply Kd.V_alloc | apply Kd.V_drewN | apply Kd.V_drew)); exact HO_199001.out) hb); have n2_ := Aside0.mk (Kd.V_below (by (with_reducible repeat (first | apply Kd.V_alloc | apply Kd.V_drewN | apply Kd.V_drew)); exact HO_208000.out) hb); have n3_ := Aside0.mk (Kd.R_below (by (with_reducible repeat (first | apply Kd.R_alloc | apply Kd.R_drewN | apply Kd.R_drew)); exact HO_208001.out) hb); have n4_ := Aside0.mk (Kd.R_below (by (with_reducible repeat (first | apply Kd.R_alloc | apply Kd.R_drewN | apply Kd.R_drew)); exact HO217.out) hb); have n5_ := Aside0.mk (blk_below (g := gb198) (o := .cells #[.slice Ao11 t200.length co11, .slice Ao13 t203.length co13] 29 (0, 0)) (by (with_reducible repeat (first | refine blk_drewN ?_ _ | refine blk_drew ?_ | refine blk_alloc ?_ _)); exact BK198.out) hb); have n6_ := Aside0.mk (blk_below (g := gb207) (o := .cells #[.slice Ao11 t200.length co11, .slice Ao65 x208001_2.length co65] 29 (0, 0)) (by (with_reducible repeat (first | refine blk_drewN ?_ _ | refine blk_drew ?_ | refine blk_alloc ?_ _)); exact BK207.out) hb); have n7_ := Aside0.mk (blk_below (g := gb218) (o := .cells #[.slice (some ⟨go42, 0, none⟩) y215.length co54, .slice Ao13 t203.length co13] 29 (0, 0)) (by (with_reducible repeat (first | refine blk_drewN ?_ _ | refine blk_drew ?_ | refine blk_alloc ?_ _)); exact BK218.out) hb); have n8_ := Aside0.mk (below_step (by repeat (first | (with_reducible first | exact HB.out | apply below_alloc | apply pw_below_drewN | apply below_drew1 | refine below_set ?_ GE198.out | refine below_set ?_ GE207.out | refine below_set ?_ GE218.out) | exact HB.out)) hb); clear HO_199000; clear HO_199001; clear HO_208000; clear HO_208001; clear HO217; clear BK198; clear BK207; clear BK218; clear HB; have HO_199000 := n0_; have HO_199001 := n1_; have HO_208000 := n2_; have HO_208001 := n3_; have HO217 := n4_; have BK198 := n5_; have BK207 := n6_; have BK218 := n7_; have HB := n8_; clear n0_ n1_ n2_ n3_ n4_ n5_ n6_ n7_ n8_; (try clear hb); (try clear hb2); (try clear hk); (try clear hi); have hcz67_0 : w66.cell? ⟨gb218, 0, none⟩ = some (.slice (some ⟨go42, 0, none⟩) y215.length co54) := (blk_cell BK218.out 0).trans rfl; have hcz67_1 : w66.cell? ⟨gb218, 1, none⟩ = some (.slice Ao13 t203.length co13) := (blk_cell BK218.out 1).trans rfl; have hfz67_0 := blk_frozen BK218.out 0; have hfz67_1 := blk_frozen BK218.out 1) | (go_at_call 13; refine calls_of_args (args' := #[.agg #[.slice (some ⟨go42, 0, none⟩) y219.length co54, .slice Ao13 t203.length co13]]) (by first | (rw [show y219.length = y215.length from (Kd.R_reads' HO217.out).1.symm] <;> rfl) | rfl) ?_; (with_reducible refine (valid_Graph.calls k2 _ _ y219 _ _ t203 t221 _ ?side1 ?side2 ?side3 ?side4 A46.out).mono ?_); (case side1 => repeat (first | exact (Kd.R_reads' HO217.out).2.2 | (with_reducible refine Kd.C_alloc ?_ _) | (with_reducible refine Kd.C_drewN ?_ _) | (with_reducible refine Kd.C_drew ?_))); (case side2 => rw [show y219.length = y215.length from (Kd.R_reads' HO217.out).1.symm]; exact (Kd.R_reads' HO217.out).2.1); (case side3 => repeat (first | exact (Kd.V_reads' HO_199001.out).2.2 | (with_reducible refine Kd.C_alloc ?_ _) | (with_reducible refine Kd.C_drewN ?_ _) | (with_reducible refine Kd.C_drew ?_))); (case side4 => exact (Kd.V_reads' HO_199001.out).2.1); rintro e w68 ⟨rfl, hb⟩; have n0_ := Aside0.mk (Kd.V_below (by (with_reducible repeat (first | apply Kd.V_alloc | apply Kd.V_drewN | apply Kd.V_drew)); exact HO_199000.out) hb); have n1_ := Aside0.mk (Kd.V_below (by (with_reducible repeat (first | apply Kd.V_alloc | apply Kd.V_drewN | apply Kd.V_drew)); exact HO_199001.out) hb); have n2_ := Aside0.mk (Kd.V_below (by (with_reducible repeat (first | apply Kd.V_alloc | apply Kd.V_drewN | apply Kd.V_drew)); exact HO_208000.out) hb); have n3_ := Aside0.mk (Kd.R_below (by (with_reducible repeat (first | apply Kd.R_alloc | apply Kd.R_drewN | apply Kd.R_drew)); exact HO_208001.out) hb); have n4_ := Aside0.mk (Kd.R_below (by (with_reducible repeat (first | apply Kd.R_alloc | apply Kd.R_drewN | apply Kd.R_drew)); exact HO217.out) hb); have n5_ := Aside0.mk (blk_below (g := gb198) (o := .cells #[.slice Ao11 t200.length co11, .slice Ao13 t203.length co13] 29 (0, 0)) (by (with_reducible repeat (first | refine blk_drewN ?_ _ | refine blk_drew ?_ | refine blk_alloc ?_ _)); exact BK198.out) hb); have n6_ := Aside0.mk (blk_below (g := gb207) (o := .cells #[.slice Ao11 t200.length co11, .slice Ao65 x208001_2.length co65] 29 (0, 0)) (by (with_reducible repeat (first | refine blk_drewN ?_ _ | refine blk_drew ?_ | refine blk_alloc ?_ _)); exact BK207.out) hb); have n7_ := Aside0.mk (blk_below (g := gb218) (o := .cells #[.slice (some ⟨go42, 0, none⟩) y215.length co54, .slice Ao13 t203.length co13] 29 (0, 0)) (by (with_reducible repeat (first | refine blk_drewN ?_ _ | refine blk_drew ?_ | refine blk_alloc ?_ _)); exact BK218.out) hb); have n8_ := Aside0.mk (below_step (by repeat (first | (with_reducible first | exact HB.out | apply below_alloc | apply pw_below_drewN | apply below_drew1 | refine below_set ?_ GE198.out | refine below_set ?_ GE207.out | refine below_set ?_ GE218.out) | exact HB.out)) hb); clear HO_199000; clear HO_199001; clear HO_208000; clear HO_208001; clear HO217; clear BK198; clear BK207; clear BK218; clear HB; have HO_199000 := n0_; have HO_199001 := n1_; have HO_208000 := n2_; have HO_208001 := n3_; have HO217 := n4_; have BK198 := n5_; have BK207 := n6_; have BK218 := n7_; have HB := n8_; clear n0_ n1_ n2_ n3_ n4_ n5_ n6_ n7_ n8_; (try clear hb); (try clear hb2); (try clear hk); (try clear hi)))
             go_ret
             exact ⟨by first | rfl | (simp [errW_none, errW_some] <;> rfl) | (simp [*, errW_none, errW_some] <;> rfl), by repeat (first | (with_reducible first | exact HB.out | apply below_alloc | apply pw_below_drewN | apply below_drew1 | refine below_set ?_ GE198.out | refine below_set ?_ GE207.out | refine below_set ?_ GE218.out) | exact HB.out)⟩
            ·rw [if_neg c45] at H
             exact absurd H (by simp)
           ·replace c43 := Bool.eq_false_iff.mpr c43
            subst c43
            have H1 : (none) = some r := by rw [if_neg (show ¬ (false = true) by decide)] at H; exact H
            clear H
            have H := H1
            clear H1
            exact absurd H (by simp)
          ·rw [if_neg c41] at H
           exact absurd H (by simp)
         ·rw [if_neg c40] at H
          exact absurd H (by simp)
        ·rw [if_neg c39] at H
         exact absurd H (by simp)
       ·rw [if_neg c38] at H
        exact absurd H (by simp)

end Go.Proofs.Ytjlnjlnecipllaa.PAll
