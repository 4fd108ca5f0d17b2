-- Grafted by graft.py of this repo out of a print of the kit's printer. Not trusted: Lean checks it.
import Derived.Test.YtjlnjlnecipllaaPAllx0
import Derived.Test.YtjlnjlnecipllaaRegMore
import Derived.Test.YtjlnjlnecipllaaPAllx3
import Derived.Test.YtjlnjlnecipllaaPAllx6
import Derived.Test.YtjlnjlnecipllaaPAllx7
namespace Go.Proofs.Ytjlnjlnecipllaa.PAll
open Go.RowKit Go.Proofs.YtjlnjlnecipllaaW.PrintWords Go.Proofs.YtjlnjlnecipllaaW.PrintLast Go.Proofs.YtjlnjlnecipllaaW.PrintMore
attribute [local go_sem] max2_int min2_int max_two min_two max_three min_three max_four min_four   -- for this text's walks alone
set_option linter.unusedVariables false
set_option linter.unusedSimpArgs false

/-! ### meanderlaw09_ValidMore_Mor: function 5 -/
mutual
def meanderlaw09_ValidMore_Mor.j0 : Nat → Int → Int → Bool → Bool → List (S23) → List (S36) → Option (Bool)
 | 0, _, _, _, _, _, _ => none
 | k + 1, x1, x2, x7, x56, x199000, x199001 => if x56 = true then ((some (([] : List (S23)) : List (S23))).bind fun y210 => (if y210.length + x199000.length < 4398046511104 then ((some (y210 ++ x199000 : List (S23))).bind fun y213 => (if y213.length < 4398046511104 then ((some (([] : List (S36)) : List (S36))).bind fun y219 => (if y219.length + x199001.length < 5864062014805 then ((some (y219 ++ x199001 : List (S36))).bind fun y222 => (if y222.length < 5864062014805 then ((valid_Graph.f k (y213 ++ [(⟨11, 0, 0, 0⟩ : S23)]) (y222 ++ [(⟨x1, (x199000.length : Int), 0⟩ : S36)])).bind fun t229 => (if t229 = 0 then (meanderlaw09_ValidMore_Mor.j1 k x2 x7 x199000 x199001) else (none))) else (none))) else (none))) else (none))) else (none))) else (meanderlaw09_ValidMore_Mor.j1 k x2 x7 x199000 x199001)
def meanderlaw09_ValidMore_Mor.j1 : Nat → Int → Bool → List (S23) → List (S36) → Option (Bool)
 | 0, _, _, _, _ => none
 | k + 1, x2, x7, x199000, x199001 => if x2 < 0 then (meanderlaw09_ValidMore_Mor.j2 k x2 x7 true x199000 x199001) else (meanderlaw09_ValidMore_Mor.j2 k x2 x7 (decide (x2 ≥ (x199001.length : Int))) x199000 x199001)
def meanderlaw09_ValidMore_Mor.j2 : Nat → Int → Bool → Bool → List (S23) → List (S36) → Option (Bool)
 | 0, _, _, _, _, _ => none
 | k + 1, x2, x7, x87, x199000, x199001 => if x87 = true then (some x7) else ((some (([] : List (S36)) : List (S36))).bind fun y230 => (if 0 ≤ x2 then (if x2 ≤ (x199001.length : Int) then ((some (x199001.take (x2 : Int).toNat : List (S36))).bind fun y233 => (if y230.length + y233.length < 5864062014805 then ((some (y230 ++ y233 : List (S36))).bind fun y238 => (if 0 ≤ (wrap64 (x2 + 1)) then (if (wrap64 (x2 + 1)) ≤ (x199001.length : Int) then ((some (x199001.drop ((wrap64 (x2 + 1)) : Int).toNat : List (S36))).bind fun y241 => (if y238.length + y241.length < 5864062014805 then ((some (([] : List (S36)) : List (S36))).bind fun y250 => (if y250.length + x199001.length < 5864062014805 then ((some (y250 ++ x199001 : List (S36))).bind fun y253 => (if x2 < (x199001.length : Int) then (if y253.length < 5864062014805 then (if x7 = true then ((valid_Graph.f k x199000 (y238 ++ y241)).bind fun t261 => (if t261 = 13 then (if (x199001.length : Int) ≥ 24 then (some true) else ((valid_Graph.f k x199000 (y253 ++ [(⟨(rd_T36 x199001 x2).f0, (rd_T36 x199001 x2).f1, (rd_T36 x199001 x2).f2⟩ : S36)])).bind fun t262 => (some (t262 == 13)))) else (none))) else (none)) else (none)) else (none))) else (none))) else (none))) else (none)) else (none))) else (none))) else (none)) else (none)))
end
def meanderlaw09_ValidMore_Mor.f (k : Nat) (l0_0 : List (S23)) (l0_1 : List (S36)) (a1 : Int) (a2 : Int) : Option (Bool) := (meanderlaw09_shown.f k).bind fun t199 => ((meanderlaw09_few.f l0_0 l0_1).bind fun bt200 => ((valid_Graph.f k bt200.1 bt200.2).bind fun t206 => (if t206 = 0 then (if a1 ≥ 0 then (if a1 < (bt200.1.length : Int) then (if 0 ≤ a1 then ((graph_HasOut.f ((rd_T23 bt200.1 a1).f0)).bind fun t208 => (if t208 = true then (if ((rd_T23 bt200.1 a1).f3) = 0 then (if (bt200.1.length : Int) < 12 then (meanderlaw09_ValidMore_Mor.j0 k a1 a2 t199 (decide ((bt200.2.length : Int) < 24)) bt200.1 bt200.2) else (meanderlaw09_ValidMore_Mor.j0 k a1 a2 t199 false bt200.1 bt200.2)) else (meanderlaw09_ValidMore_Mor.j0 k a1 a2 t199 false bt200.1 bt200.2)) else (meanderlaw09_ValidMore_Mor.j0 k a1 a2 t199 false bt200.1 bt200.2))) else (none)) else (meanderlaw09_ValidMore_Mor.j0 k a1 a2 t199 false bt200.1 bt200.2)) else (meanderlaw09_ValidMore_Mor.j0 k a1 a2 t199 false bt200.1 bt200.2)) else (some t199))))
theorem meanderlaw09_ValidMore_Mor.mono_l : ∀ k, (∀ y0 y1 y2 y3 y4 y5, LeO (meanderlaw09_ValidMore_Mor.j0 k y0 y1 y2 y3 y4 y5) (meanderlaw09_ValidMore_Mor.j0 (k + 1) y0 y1 y2 y3 y4 y5)) ∧ (∀ y0 y1 y2 y3, LeO (meanderlaw09_ValidMore_Mor.j1 k y0 y1 y2 y3) (meanderlaw09_ValidMore_Mor.j1 (k + 1) y0 y1 y2 y3)) ∧ (∀ y0 y1 y2 y3 y4, LeO (meanderlaw09_ValidMore_Mor.j2 k y0 y1 y2 y3 y4) (meanderlaw09_ValidMore_Mor.j2 (k + 1) y0 y1 y2 y3 y4))
 | 0 => ⟨fun _ _ _ _ _ _ r h => by simp [meanderlaw09_ValidMore_Mor.j0] at h, fun _ _ _ _ r h => by simp [meanderlaw09_ValidMore_Mor.j1] at h, fun _ _ _ _ _ r h => by simp [meanderlaw09_ValidMore_Mor.j2] at h⟩
 | k + 1 => by
  obtain ⟨ih0, ih1, ih2⟩ := meanderlaw09_ValidMore_Mor.mono_l k
  refine ⟨?_, ?_, ?_⟩
  ·intro y0 y1 y2 y3 y4 y5
   unfold meanderlaw09_ValidMore_Mor.j0
   repeat' first
   | (with_reducible exact ih0 _ _ _ _ _ _)
   | (with_reducible exact ih1 _ _ _ _)
   | (with_reducible exact ih2 _ _ _ _ _)
   | (with_reducible exact meanderlaw09_shown.mono _)
   | (with_reducible exact valid_Graph.mono _ _ _)
   | (with_reducible exact LeO.refl _)
   | (with_reducible exact LeO.none _)
   | (with_reducible refine LeO.ite ?_ ?_)
   | (with_reducible refine LeO.bind ?_ (fun _ => ?_))
   | exact ih0 _ _ _ _ _ _
   | exact ih1 _ _ _ _
   | exact ih2 _ _ _ _ _
   | exact meanderlaw09_shown.mono _
   | exact valid_Graph.mono _ _ _
   | exact LeO.none _
   | refine LeO.ite ?_ ?_
   | refine LeO.bind ?_ (fun _ => ?_)
  ·intro y0 y1 y2 y3
   unfold meanderlaw09_ValidMore_Mor.j1
   repeat' first
   | (with_reducible exact ih0 _ _ _ _ _ _)
   | (with_reducible exact ih1 _ _ _ _)
   | (with_reducible exact ih2 _ _ _ _ _)
   | (with_reducible exact meanderlaw09_shown.mono _)
   | (with_reducible exact valid_Graph.mono _ _ _)
   | (with_reducible exact LeO.refl _)
   | (with_reducible exact LeO.none _)
   | (with_reducible refine LeO.ite ?_ ?_)
   | (with_reducible refine LeO.bind ?_ (fun _ => ?_))
   | exact ih0 _ _ _ _ _ _
   | exact ih1 _ _ _ _
   | exact ih2 _ _ _ _ _
   | exact meanderlaw09_shown.mono _
   | exact valid_Graph.mono _ _ _
   | exact LeO.none _
   | refine LeO.ite ?_ ?_
   | refine LeO.bind ?_ (fun _ => ?_)
  ·intro y0 y1 y2 y3 y4
   unfold meanderlaw09_ValidMore_Mor.j2
   repeat' first
   | (with_reducible exact ih0 _ _ _ _ _ _)
   | (with_reducible exact ih1 _ _ _ _)
   | (with_reducible exact ih2 _ _ _ _ _)
   | (with_reducible exact meanderlaw09_shown.mono _)
   | (with_reducible exact valid_Graph.mono _ _ _)
   | (with_reducible exact LeO.refl _)
   | (with_reducible exact LeO.none _)
   | (with_reducible refine LeO.ite ?_ ?_)
   | (with_reducible refine LeO.bind ?_ (fun _ => ?_))
   | exact ih0 _ _ _ _ _ _
   | exact ih1 _ _ _ _
   | exact ih2 _ _ _ _ _
   | exact meanderlaw09_shown.mono _
   | exact valid_Graph.mono _ _ _
   | exact LeO.none _
   | refine LeO.ite ?_ ?_
   | refine LeO.bind ?_ (fun _ => ?_)
theorem meanderlaw09_ValidMore_Mor.mono : ∀ a0 a1 a2 a3 k, LeO (meanderlaw09_ValidMore_Mor.f k a0 a1 a2 a3) (meanderlaw09_ValidMore_Mor.f (k + 1) a0 a1 a2 a3) := by
 intro a0 a1 a2 a3 k
 obtain ⟨ih0, ih1, ih2⟩ := meanderlaw09_ValidMore_Mor.mono_l k
 unfold meanderlaw09_ValidMore_Mor.f
 repeat' first
   | (with_reducible exact ih0 _ _ _ _ _ _)
   | (with_reducible exact ih1 _ _ _ _)
   | (with_reducible exact ih2 _ _ _ _ _)
   | (with_reducible exact meanderlaw09_shown.mono _)
   | (with_reducible exact valid_Graph.mono _ _ _)
   | (with_reducible exact LeO.refl _)
   | (with_reducible exact LeO.none _)
   | (with_reducible refine LeO.ite ?_ ?_)
   | (with_reducible refine LeO.bind ?_ (fun _ => ?_))
   | exact ih0 _ _ _ _ _ _
   | exact ih1 _ _ _ _
   | exact ih2 _ _ _ _ _
   | exact meanderlaw09_shown.mono _
   | exact valid_Graph.mono _ _ _
   | exact LeO.none _
   | refine LeO.ite ?_ ?_
   | refine LeO.bind ?_ (fun _ => ?_)
set_option maxHeartbeats 8000000 in
set_option maxRecDepth 100000 in
theorem meanderlaw09_ValidMore_Mor.calls (k : Nat) (A0_0 : Option Addr) (c0_0 : Nat) (l0_0 : List (S23)) (A0_1 : Option Addr) (c0_1 : Nat) (l0_1 : List (S36)) (a1 : Int) (a2 : Int) (r : Bool) (w : World) (hr0_0 : Kd.C k23 w A0_0 l0_0.length l0_0) (hc0_0 : l0_0.length ≤ c0_0) (hr0_1 : Kd.C k36 w A0_1 l0_1.length l0_1) (hc0_1 : l0_1.length ≤ c0_1) (h : meanderlaw09_ValidMore_Mor.f k l0_0 l0_1 a1 a2 = some r) :
  Calls Try.prog 5 #[.agg #[.slice A0_0 l0_0.length c0_0, .slice A0_1 l0_1.length c0_1], .int .i64 a1, .int .i64 a2] w fun e w' => e = .returned (.bool r) ∧ Below w.heap.size w w' := by
 have hu29 := Try.underlying29
 have hu23 := Try.underlying23
 have hu36 := Try.underlying36
 have HR0_0 := Aside0.mk hr0_0
 have HC0_0 := Aside0.mk hc0_0
 clear hr0_0 hc0_0
 have HR0_1 := Aside0.mk hr0_1
 have HC0_1 := Aside0.mk hc0_1
 clear hr0_1 hc0_1
 have HB := Aside0.mk (Below.refl w.heap.size w)
 have H : ((meanderlaw09_shown.f k).bind fun t199 => ((meanderlaw09_few.f l0_0 l0_1).bind fun bt200 => ((valid_Graph.f k bt200.1 bt200.2).bind fun t206 => (if t206 = 0 then (if a1 ≥ 0 then (if a1 < (bt200.1.length : Int) then (if 0 ≤ a1 then ((graph_HasOut.f ((rd_T23 bt200.1 a1).f0)).bind fun t208 => (if t208 = true then (if ((rd_T23 bt200.1 a1).f3) = 0 then (if (bt200.1.length : Int) < 12 then (meanderlaw09_ValidMore_Mor.j0 k a1 a2 t199 (decide ((bt200.2.length : Int) < 24)) bt200.1 bt200.2) else (meanderlaw09_ValidMore_Mor.j0 k a1 a2 t199 false bt200.1 bt200.2)) else (meanderlaw09_ValidMore_Mor.j0 k a1 a2 t199 false bt200.1 bt200.2)) else (meanderlaw09_ValidMore_Mor.j0 k a1 a2 t199 false bt200.1 bt200.2))) else (none)) else (meanderlaw09_ValidMore_Mor.j0 k a1 a2 t199 false bt200.1 bt200.2)) else (meanderlaw09_ValidMore_Mor.j0 k a1 a2 t199 false bt200.1 bt200.2)) else (some t199))))) = some r := h
 clear h
 replace H := Option.bind_eq_some_iff.mp H
 obtain ⟨t199, A40, H⟩ := H
 replace H : ((meanderlaw09_few.f l0_0 l0_1).bind fun bt200 => ((valid_Graph.f k bt200.1 bt200.2).bind fun t206 => (if t206 = 0 then (if a1 ≥ 0 then (if a1 < (bt200.1.length : Int) then (if 0 ≤ a1 then ((graph_HasOut.f ((rd_T23 bt200.1 a1).f0)).bind fun t208 => (if t208 = true then (if ((rd_T23 bt200.1 a1).f3) = 0 then (if (bt200.1.length : Int) < 12 then (meanderlaw09_ValidMore_Mor.j0 k a1 a2 t199 (decide ((bt200.2.length : Int) < 24)) bt200.1 bt200.2) else (meanderlaw09_ValidMore_Mor.j0 k a1 a2 t199 false bt200.1 bt200.2)) else (meanderlaw09_ValidMore_Mor.j0 k a1 a2 t199 false bt200.1 bt200.2)) else (meanderlaw09_ValidMore_Mor.j0 k a1 a2 t199 false bt200.1 bt200.2))) else (none)) else (meanderlaw09_ValidMore_Mor.j0 k a1 a2 t199 false bt200.1 bt200.2)) else (meanderlaw09_ValidMore_Mor.j0 k a1 a2 t199 false bt200.1 bt200.2)) else (some t199)))) = some r := H
 have A4 := Aside0.mk A40
 clear A40
 replace H := Option.bind_eq_some_iff.mp H
 obtain ⟨⟨t200, t203⟩, A50, H⟩ := H
 replace H : ((valid_Graph.f k t200 t203).bind fun t206 => (if t206 = 0 then (if a1 ≥ 0 then (if a1 < (t200.length : Int) then (if 0 ≤ a1 then ((graph_HasOut.f ((rd_T23 t200 a1).f0)).bind fun t208 => (if t208 = true then (if ((rd_T23 t200 a1).f3) = 0 then (if (t200.length : Int) < 12 then (meanderlaw09_ValidMore_Mor.j0 k a1 a2 t199 (decide ((t203.length : Int) < 24)) t200 t203) else (meanderlaw09_ValidMore_Mor.j0 k a1 a2 t199 false t200 t203)) else (meanderlaw09_ValidMore_Mor.j0 k a1 a2 t199 false t200 t203)) else (meanderlaw09_ValidMore_Mor.j0 k a1 a2 t199 false t200 t203))) else (none)) else (meanderlaw09_ValidMore_Mor.j0 k a1 a2 t199 false t200 t203)) else (meanderlaw09_ValidMore_Mor.j0 k a1 a2 t199 false t200 t203)) else (some t199))) = some r := H
 have A5 := Aside0.mk A50
 clear A50
 replace H := Option.bind_eq_some_iff.mp H
 obtain ⟨t206, A60, H⟩ := H
 replace H : (if t206 = 0 then (if a1 ≥ 0 then (if a1 < (t200.length : Int) then (if 0 ≤ a1 then ((graph_HasOut.f ((rd_T23 t200 a1).f0)).bind fun t208 => (if t208 = true then (if ((rd_T23 t200 a1).f3) = 0 then (if (t200.length : Int) < 12 then (meanderlaw09_ValidMore_Mor.j0 k a1 a2 t199 (decide ((t203.length : Int) < 24)) t200 t203) else (meanderlaw09_ValidMore_Mor.j0 k a1 a2 t199 false t200 t203)) else (meanderlaw09_ValidMore_Mor.j0 k a1 a2 t199 false t200 t203)) else (meanderlaw09_ValidMore_Mor.j0 k a1 a2 t199 false t200 t203))) else (none)) else (meanderlaw09_ValidMore_Mor.j0 k a1 a2 t199 false t200 t203)) else (meanderlaw09_ValidMore_Mor.j0 k a1 a2 t199 false t200 t203)) else (some t199)) = some r := H
 have A6 := Aside0.mk A60
 clear A60
 by_cases c7 : t206 = 0
 ·rw [if_pos c7] at H
  have c7b0 : (t206 == 0) = true := beq_iff_eq.mpr c7
  have c7b1 : (t206 != 0) = false := bne_eq_false_iff_eq.mpr c7
  clear c7
  have HC8 := Aside0.mk H
  clear H
  go_enter Try.func5, Try.ntmps5
  go_upto_region 5 with (first | ((with_reducible refine gate_dst (N := 3) rfl ?_); (try (refine gate_guard (by rfl) ?_; dsimp only)); refine box_event ?hg (N := 3) ?hd (cs := #[.slice A0_0 l0_0.length c0_0, .slice A0_1 l0_1.length c0_1]) (t := 29) ?hr ?_; (case hd => rfl); (case hg => rfl); (case hr => first | (go_simp; done) | (go_simp; rfl)); intro gb198 hg w9 hbox hb; have n0_ := Aside0.mk (below_step (by repeat (first | (with_reducible first | exact HB.out | apply below_alloc | apply pw_below_drewN | apply below_drew1) | exact HB.out)) hb); have n1_ := Aside0.mk (hbox); have n2_ := Aside0.mk ((by rw [hg]; exact (below_size (by repeat (first | (with_reducible first | exact HB.out | apply below_alloc | apply pw_below_drewN | apply below_drew1) | exact HB.out))) : w.heap.size ≤ gb198)); have n3_ := Aside0.mk ((by rw [hg]; exact (below_size (by repeat (first | (with_reducible first | exact HB.out | apply below_alloc | apply pw_below_drewN | apply below_drew1) | exact HB.out))) : w.heap.size ≤ gb198)); clear HB; have HB := n0_; have BK198 := n1_; have GW198 := n2_; have GE198 := n3_; clear n0_ n1_ n2_ n3_; clear hb hbox hg) | ((with_reducible refine gate_callee (f := 9) rfl ?_); refine goesL_ (some 11) rfl rfl Try.func9 (by kernel_rfl) rfl #[] rfl (by (try simp only [List.map_toArray, List.map_cons, List.map_nil]); first | done | rfl | (simp only [List.length_drop, List.length_take]; rfl)) ?_; (with_reducible refine (meanderlaw09_shown.calls k  t199 _ A4.out).mono ?_); rintro e w10 ⟨rfl, hb⟩; refine ⟨_, rfl, ?_⟩; have n0_ := Aside0.mk (blk_below (g := gb198) (o := .cells #[.slice A0_0 l0_0.length c0_0, .slice A0_1 l0_1.length c0_1] 29 (0, 0)) (by (with_reducible repeat (first | refine blk_drewN ?_ _ | refine blk_drew ?_ | refine blk_alloc ?_ _)); exact BK198.out) hb); have n1_ := Aside0.mk (below_step (by repeat (first | (with_reducible first | exact HB.out | apply below_alloc | apply pw_below_drewN | apply below_drew1 | refine below_set ?_ GE198.out) | exact HB.out)) hb); clear BK198; clear HB; have BK198 := n0_; have HB := n1_; clear n0_ n1_; (try clear hb); (try clear hb2); (try clear hk); (try clear hi); have hcz11_0 : w10.cell? ⟨gb198, 0, none⟩ = some (.slice A0_0 l0_0.length c0_0) := (blk_cell BK198.out 0).trans rfl; have hcz11_1 : w10.cell? ⟨gb198, 1, none⟩ = some (.slice A0_1 l0_1.length c0_1) := (blk_cell BK198.out 1).trans rfl; have hfz11_0 := blk_frozen BK198.out 0; have hfz11_1 := blk_frozen BK198.out 1) | ((with_reducible refine gate_callee (f := 12) rfl ?_); refine goesL_ (some 13) rfl rfl Try.func12 (by kernel_rfl) rfl #[.agg #[.slice A0_0 l0_0.length c0_0, .slice A0_1 l0_1.length c0_1]] rfl (by (try simp only [List.map_toArray, List.map_cons, List.map_nil]); first | done | rfl | (simp only [List.length_drop, List.length_take]; rfl)) ?_; (with_reducible refine (meanderlaw09_few.calls (fun k_ => k_ < w.heap.size) _ _ l0_0 (fun k_ => k_ < w.heap.size) _ _ l0_1 t200 t203 _ ?side1 ?side2 A5.out).mono ?_); (case side1 => exact Kd.V_mk HC0_0.out (Kd.F_below (Kd.C_F k23_heap HR0_0.out) (by repeat (first | (with_reducible first | exact HB.out | apply below_alloc | apply pw_below_drewN | apply below_drew1 | refine below_set ?_ GE198.out) | exact HB.out)))); (case side2 => exact Kd.V_mk HC0_1.out (Kd.F_below (Kd.C_F k36_heap HR0_1.out) (by repeat (first | (with_reducible first | exact HB.out | apply below_alloc | apply pw_below_drewN | apply below_drew1 | refine below_set ?_ GE198.out) | exact HB.out)))); rintro e w12 ⟨v201, v204, rfl, ho0, ho1, hb⟩; refine ⟨_, rfl, ?_⟩; have n0_ := Aside0.mk (Kd.V_lower (Kd.V_mono (ok' := fun k_ => k_ ≠ gb198) ho0 (fun k_ hk_ => Or.elim hk_ (fun hs_ => Or.elim hs_ (fun hs_ => fun e_ => Nat.not_le.2 hs_ (by rw [e_]; exact GW198.out)) (fun hs_ => fun e_ => Nat.not_le.2 hs_ (by rw [e_]; exact GW198.out))) (fun hn_ => (Kd.freshB (g := gb198) (o := .cells #[.slice A0_0 l0_0.length c0_0, .slice A0_1 l0_1.length c0_1] 29 (0, 0)) (by (with_reducible repeat (first | refine blk_drewN ?_ _ | refine blk_drew ?_ | refine blk_alloc ?_ _)); exact BK198.out) k_ hn_)))) (below_size (by repeat (first | (with_reducible first | exact HB.out | apply below_alloc | apply pw_below_drewN | apply below_drew1 | refine below_set ?_ GE198.out) | exact HB.out)))); have n1_ := Aside0.mk (Kd.V_lower (Kd.V_mono (ok' := fun k_ => k_ ≠ gb198) ho1 (fun k_ hk_ => Or.elim hk_ (fun hs_ => Or.elim hs_ (fun hs_ => fun e_ => Nat.not_le.2 hs_ (by rw [e_]; exact GW198.out)) (fun hs_ => fun e_ => Nat.not_le.2 hs_ (by rw [e_]; exact GW198.out))) (fun hn_ => (Kd.freshB (g := gb198) (o := .cells #[.slice A0_0 l0_0.length c0_0, .slice A0_1 l0_1.length c0_1] 29 (0, 0)) (by (with_reducible repeat (first | refine blk_drewN ?_ _ | refine blk_drew ?_ | refine blk_alloc ?_ _)); exact BK198.out) k_ hn_)))) (below_size (by repeat (first | (with_reducible first | exact HB.out | apply below_alloc | apply pw_below_drewN | apply below_drew1 | refine below_set ?_ GE198.out) | exact HB.out)))); have n2_ := Aside0.mk (blk_below (g := gb198) (o := .cells #[.slice A0_0 l0_0.length c0_0, .slice A0_1 l0_1.length c0_1] 29 (0, 0)) (by (with_reducible repeat (first | refine blk_drewN ?_ _ | refine blk_drew ?_ | refine blk_alloc ?_ _)); exact BK198.out) hb); have n3_ := Aside0.mk (below_step (by repeat (first | (with_reducible first | exact HB.out | apply below_alloc | apply pw_below_drewN | apply below_drew1 | refine below_set ?_ GE198.out) | exact HB.out)) hb); clear BK198; clear HB; have HO202 := n0_; have HO205 := n1_; have BK198 := n2_; have HB := n3_; clear n0_ n1_ n2_ n3_; (try clear hb); (try clear hb2); (try clear hk); (try clear hi); (try clear ho0); (try clear ho1); obtain ⟨Ao13, co13, eo13⟩ := Kd.V_slice HO202.out; subst eo13; have hcz14_0 : w12.cell? ⟨gb198, 0, none⟩ = some (.slice A0_0 l0_0.length c0_0) := (blk_cell BK198.out 0).trans rfl; have hcz14_1 : w12.cell? ⟨gb198, 1, none⟩ = some (.slice A0_1 l0_1.length c0_1) := (blk_cell BK198.out 1).trans rfl; have hfz14_0 := blk_frozen BK198.out 0; have hfz14_1 := blk_frozen BK198.out 1; obtain ⟨Ao15, co15, eo15⟩ := Kd.V_slice HO205.out; subst eo15) | ((with_reducible refine gate_callee (f := 13) rfl ?_); refine goesL_ (some 15) rfl rfl Try.func13 (by kernel_rfl) rfl #[.agg #[.slice Ao13 t200.length co13, .slice Ao15 t203.length co15]] rfl (by (try simp only [List.map_toArray, List.map_cons, List.map_nil]); first | done | rfl | (simp only [List.length_drop, List.length_take]; rfl)) ?_; (with_reducible refine (valid_Graph.calls k _ _ t200 _ _ t203 t206 _ ?side1 ?side2 ?side3 ?side4 A6.out).mono ?_); (case side1 => refine (Kd.V_reads' (e := 23) (base := w.heap.size) (ok := fun k_ => k_ ≠ gb198) (n := t200.length) (c := co13) ?_).2.2; exact (by (with_reducible repeat (first | apply Kd.V_alloc | apply Kd.V_drewN | apply Kd.V_drew)); exact (Kd.V_mono (Kd.V_far (p := ⟨gb198, 1, none⟩) (Kd.V_far (p := ⟨gb198, 0, none⟩) (Kd.V_mono HO202.out (fun k_ hk => (⟨hk, hk⟩ : _ ∧ k_ ≠ gb198))) (fun _ hk => hk.2) (.slice Ao13 t200.length co13)) (fun _ hk => hk.2) (.slice Ao15 t203.length co15)) (fun _ h_ => h_.1)))); (case side2 => exact (Kd.V_reads' HO202.out).2.1); (case side3 => refine (Kd.V_reads' (e := 36) (base := w.heap.size) (ok := fun k_ => k_ ≠ gb198) (n := t203.length) (c := co15) ?_).2.2; exact (by (with_reducible repeat (first | apply Kd.V_alloc | apply Kd.V_drewN | apply Kd.V_drew)); exact (Kd.V_mono (Kd.V_far (p := ⟨gb198, 1, none⟩) (Kd.V_far (p := ⟨gb198, 0, none⟩) (Kd.V_mono HO205.out (fun k_ hk => (⟨hk, hk⟩ : _ ∧ k_ ≠ gb198))) (fun _ hk => hk.2) (.slice Ao13 t200.length co13)) (fun _ hk => hk.2) (.slice Ao15 t203.length co15)) (fun _ h_ => h_.1)))); (case side4 => exact (Kd.V_reads' HO205.out).2.1); rintro e w16 ⟨rfl, hb⟩; refine ⟨_, rfl, ?_⟩; have n0_ := Aside0.mk (Kd.V_below (by (with_reducible repeat (first | apply Kd.V_alloc | apply Kd.V_drewN | apply Kd.V_drew)); exact (Kd.V_mono (Kd.V_far (p := ⟨gb198, 1, none⟩) (Kd.V_far (p := ⟨gb198, 0, none⟩) (Kd.V_mono HO202.out (fun k_ hk => (⟨hk, hk⟩ : _ ∧ k_ ≠ gb198))) (fun _ hk => hk.2) (.slice Ao13 t200.length co13)) (fun _ hk => hk.2) (.slice Ao15 t203.length co15)) (fun _ h_ => h_.1))) hb); have n1_ := Aside0.mk (Kd.V_below (by (with_reducible repeat (first | apply Kd.V_alloc | apply Kd.V_drewN | apply Kd.V_drew)); exact (Kd.V_mono (Kd.V_far (p := ⟨gb198, 1, none⟩) (Kd.V_far (p := ⟨gb198, 0, none⟩) (Kd.V_mono HO205.out (fun k_ hk => (⟨hk, hk⟩ : _ ∧ k_ ≠ gb198))) (fun _ hk => hk.2) (.slice Ao13 t200.length co13)) (fun _ hk => hk.2) (.slice Ao15 t203.length co15)) (fun _ h_ => h_.1))) hb); have n2_ := Aside0.mk (blk_below (g := gb198) (o := .cells #[.slice Ao13 t200.length co13, .slice Ao15 t203.length co15] 29 (0, 0)) (by (with_reducible repeat (first | refine blk_drewN ?_ _ | refine blk_drew ?_ | refine blk_alloc ?_ _)); refine blk_put (cs := #[.slice Ao13 t200.length co13, .slice A0_1 l0_1.length c0_1]) ?_ 1 _ rfl; (with_reducible repeat (first | refine blk_drewN ?_ _ | refine blk_drew ?_ | refine blk_alloc ?_ _)); refine blk_put (cs := #[.slice A0_0 l0_0.length c0_0, .slice A0_1 l0_1.length c0_1]) ?_ 0 _ rfl; (with_reducible repeat (first | refine blk_drewN ?_ _ | refine blk_drew ?_ | refine blk_alloc ?_ _)); exact BK198.out) hb); have n3_ := Aside0.mk (below_step (by repeat (first | (with_reducible first | exact HB.out | apply below_alloc | apply pw_below_drewN | apply below_drew1 | refine below_set ?_ GE198.out) | exact HB.out)) hb); clear HO202; clear HO205; clear BK198; clear HB; have HO202 := n0_; have HO205 := n1_; have BK198 := n2_; have HB := n3_; clear n0_ n1_ n2_ n3_; (try clear hb); (try clear hb2); (try clear hk); (try clear hi)))
  (try simp only [Act.put, List.setIfInBounds_toArray, List.set_cons_zero, List.set_cons_succ])
  go_cut [56] (fun v56 wc => ∃ (kq : Nat) (x56_7 : Bool), v56 = .bool x56_7 ∧ Aside0 (meanderlaw09_ValidMore_Mor.j0 kq a1 a2 t199 x56_7 t200 t203 = some r) ∧ Aside0 (kq ≤ k) ∧ Aside0 (Kd.V k23 23 wc w.heap.size (fun k_ => k_ ≠ gb198) (.slice Ao13 t200.length co13) t200) ∧ Aside0 (Kd.V k36 36 wc w.heap.size (fun k_ => k_ ≠ gb198) (.slice Ao15 t203.length co15) t203) ∧ Aside0 (wc.heap[gb198]? = some (.cells #[(.slice Ao13 t200.length co13), (.slice Ao15 t203.length co15)] 29 (0, 0))) ∧ Aside0 (Below w.heap.size w wc))
  case first =>
   have H := HC8.out
   clear HC8
   by_cases c17 : a1 ≥ 0
   ·rw [if_pos c17] at H
    have c17b0 : decide (0 ≤ a1) = true := decide_eq_true c17
    clear c17
    (first | rw [c17b0] | (simp only [i64_w, i32_w]; rw [c17b0]) | skip)
    by_cases c18 : a1 < (t200.length : Int)
    ·rw [if_pos c18] at H
     have c18b0 : decide (a1 < (t200.length : Int)) = true := decide_eq_true c18
     clear c18
     by_cases c19 : 0 ≤ a1
     ·rw [if_pos c19] at H
      have c19b0 : decide (0 ≤ a1) = true := decide_eq_true c19
      clear c19
      replace H := Option.bind_eq_some_iff.mp H
      obtain ⟨t208, A200, H⟩ := H
      replace H : (if t208 = true then (if ((rd_T23 t200 a1).f3) = 0 then (if (t200.length : Int) < 12 then (meanderlaw09_ValidMore_Mor.j0 k a1 a2 t199 (decide ((t203.length : Int) < 24)) t200 t203) else (meanderlaw09_ValidMore_Mor.j0 k a1 a2 t199 false t200 t203)) else (meanderlaw09_ValidMore_Mor.j0 k a1 a2 t199 false t200 t203)) else (meanderlaw09_ValidMore_Mor.j0 k a1 a2 t199 false t200 t203)) = some r := H
      have A20 := Aside0.mk A200
      clear A200
      by_cases c21 : t208 = true
      ·subst c21
       have H1 : (if ((rd_T23 t200 a1).f3) = 0 then (if (t200.length : Int) < 12 then (meanderlaw09_ValidMore_Mor.j0 k a1 a2 t199 (decide ((t203.length : Int) < 24)) t200 t203) else (meanderlaw09_ValidMore_Mor.j0 k a1 a2 t199 false t200 t203)) else (meanderlaw09_ValidMore_Mor.j0 k a1 a2 t199 false t200 t203)) = some r := by rw [if_pos rfl] at H; exact H
       clear H
       have H := H1
       clear H1
       by_cases c22 : ((rd_T23 t200 a1).f3) = 0
       ·rw [if_pos c22] at H
        have c22b0 : (((rd_T23 t200 a1).f3) == 0) = true := beq_iff_eq.mpr c22
        have c22b1 : (((rd_T23 t200 a1).f3) != 0) = false := bne_eq_false_iff_eq.mpr c22
        clear c22
        by_cases c23 : (t200.length : Int) < 12
        ·rw [if_pos c23] at H
         have c23b0 : decide ((t200.length : Int) < 12) = true := decide_eq_true c23
         have c23b1 : decide (t200.length < 12) = true := decide_eq_true (by omega)
         clear c23
         have H' := Aside0.mk H
         clear H
         have hcz24_0 : w16.cell? ⟨gb198, 0, none⟩ = some (.slice Ao13 t200.length co13) := (blk_cell BK198.out 0).trans rfl
         have hcz24_1 : w16.cell? ⟨gb198, 1, none⟩ = some (.slice Ao15 t203.length co15) := (blk_cell BK198.out 1).trans rfl
         have hfz24_0 := blk_frozen BK198.out 0
         have hfz24_1 := blk_frozen BK198.out 1
         have p207 : 0 ≤ (a1 : Int) := of_decide_eq_true (by first | (with_reducible assumption) | assumption)
         have q207 : a1 < (t200.length : Int) := of_decide_eq_true (by first | (with_reducible assumption) | assumption)
         obtain ⟨ad207, e207, hx207_0, hx207_1, hx207_2, hx207_3⟩ := at_T23 (Kd.V_reads' HO202.out).2.2 a1 p207 q207
         cases e207
         replace p207 := eq_true p207
         replace q207 := eq_true q207
         go_wp2_with (first | (go_at_call 15; (with_reducible refine (graph_HasOut.calls ((rd_T23 t200 a1).f0) true _ A20.out).mono ?_); rintro e w' ⟨rfl, ⟨nd, rfl⟩⟩; have p209 : 0 ≤ (a1 : Int) := of_decide_eq_true (by first | (with_reducible assumption) | assumption); have q209 : a1 < (t200.length : Int) := of_decide_eq_true (by first | (with_reducible assumption) | assumption); obtain ⟨ad209, e209, hx209_0, hx209_1, hx209_2, hx209_3⟩ := at_T23 (Kd.V_reads' HO202.out).2.2 a1 p209 q209; obtain rfl : ad207 = ad209 := (by injection e209); replace p209 := eq_true p209; replace q209 := eq_true q209))
         go_meet
         case rel => exact ⟨_, (decide ((t203.length : Int) < 24)), (by first | rfl | (simp; done) | (simp [*]; done)), H', ⟨by first | omega | exact Nat.le_refl _⟩, ⟨by (with_reducible repeat (first | apply Kd.V_alloc | apply Kd.V_drewN | apply Kd.V_drew)); exact HO202.out⟩, ⟨by (with_reducible repeat (first | apply Kd.V_alloc | apply Kd.V_drewN | apply Kd.V_drew)); exact HO205.out⟩, ⟨by (with_reducible repeat (first | refine blk_drewN ?_ _ | refine blk_drew ?_ | refine blk_alloc ?_ _)); exact BK198.out⟩, ⟨by repeat (first | (with_reducible first | exact HB.out | apply below_alloc | apply pw_below_drewN | apply below_drew1 | refine below_set ?_ GE198.out) | exact HB.out)⟩⟩
        ·rw [if_neg c23] at H
         have c23b0 : decide ((t200.length : Int) < 12) = false := decide_eq_false c23
         have c23b1 : decide (t200.length < 12) = false := decide_eq_false (by omega)
         clear c23
         have H' := Aside0.mk H
         clear H
         have hcz25_0 : w16.cell? ⟨gb198, 0, none⟩ = some (.slice Ao13 t200.length co13) := (blk_cell BK198.out 0).trans rfl
         have hcz25_1 : w16.cell? ⟨gb198, 1, none⟩ = some (.slice Ao15 t203.length co15) := (blk_cell BK198.out 1).trans rfl
         have hfz25_0 := blk_frozen BK198.out 0
         have hfz25_1 := blk_frozen BK198.out 1
         have p207 : 0 ≤ (a1 : Int) := of_decide_eq_true (by first | (with_reducible assumption) | assumption)
         have q207 : a1 < (t200.length : Int) := of_decide_eq_true (by first | (with_reducible assumption) | assumption)
         obtain ⟨ad207, e207, hx207_0, hx207_1, hx207_2, hx207_3⟩ := at_T23 (Kd.V_reads' HO202.out).2.2 a1 p207 q207
         cases e207
         replace p207 := eq_true p207
         replace q207 := eq_true q207
         go_wp2_with (first | (go_at_call 15; (with_reducible refine (graph_HasOut.calls ((rd_T23 t200 a1).f0) true _ A20.out).mono ?_); rintro e w' ⟨rfl, ⟨nd, rfl⟩⟩; have p209 : 0 ≤ (a1 : Int) := of_decide_eq_true (by first | (with_reducible assumption) | assumption); have q209 : a1 < (t200.length : Int) := of_decide_eq_true (by first | (with_reducible assumption) | assumption); obtain ⟨ad209, e209, hx209_0, hx209_1, hx209_2, hx209_3⟩ := at_T23 (Kd.V_reads' HO202.out).2.2 a1 p209 q209; obtain rfl : ad207 = ad209 := (by injection e209); replace p209 := eq_true p209; replace q209 := eq_true q209))
         go_meet
         case rel => exact ⟨_, (false), (by first | rfl | (simp; done) | (simp [*]; done)), H', ⟨by first | omega | exact Nat.le_refl _⟩, ⟨by (with_reducible repeat (first | apply Kd.V_alloc | apply Kd.V_drewN | apply Kd.V_drew)); exact HO202.out⟩, ⟨by (with_reducible repeat (first | apply Kd.V_alloc | apply Kd.V_drewN | apply Kd.V_drew)); exact HO205.out⟩, ⟨by (with_reducible repeat (first | refine blk_drewN ?_ _ | refine blk_drew ?_ | refine blk_alloc ?_ _)); exact BK198.out⟩, ⟨by repeat (first | (with_reducible first | exact HB.out | apply below_alloc | apply pw_below_drewN | apply below_drew1 | refine below_set ?_ GE198.out) | exact HB.out)⟩⟩
       ·rw [if_neg c22] at H
        have c22b0 : (((rd_T23 t200 a1).f3) == 0) = false := beq_eq_false_iff_ne.mpr c22
        have c22b1 : (((rd_T23 t200 a1).f3) != 0) = true := bne_iff_ne.mpr c22
        have H' := Aside0.mk H
        clear H
        have hcz26_0 : w16.cell? ⟨gb198, 0, none⟩ = some (.slice Ao13 t200.length co13) := (blk_cell BK198.out 0).trans rfl
        have hcz26_1 : w16.cell? ⟨gb198, 1, none⟩ = some (.slice Ao15 t203.length co15) := (blk_cell BK198.out 1).trans rfl
        have hfz26_0 := blk_frozen BK198.out 0
        have hfz26_1 := blk_frozen BK198.out 1
        have p207 : 0 ≤ (a1 : Int) := of_decide_eq_true (by first | (with_reducible assumption) | assumption)
        have q207 : a1 < (t200.length : Int) := of_decide_eq_true (by first | (with_reducible assumption) | assumption)
        obtain ⟨ad207, e207, hx207_0, hx207_1, hx207_2, hx207_3⟩ := at_T23 (Kd.V_reads' HO202.out).2.2 a1 p207 q207
        cases e207
        replace p207 := eq_true p207
        replace q207 := eq_true q207
        go_wp2_with (first | (go_at_call 15; (with_reducible refine (graph_HasOut.calls ((rd_T23 t200 a1).f0) true _ A20.out).mono ?_); rintro e w' ⟨rfl, ⟨nd, rfl⟩⟩; have p209 : 0 ≤ (a1 : Int) := of_decide_eq_true (by first | (with_reducible assumption) | assumption); have q209 : a1 < (t200.length : Int) := of_decide_eq_true (by first | (with_reducible assumption) | assumption); obtain ⟨ad209, e209, hx209_0, hx209_1, hx209_2, hx209_3⟩ := at_T23 (Kd.V_reads' HO202.out).2.2 a1 p209 q209; obtain rfl : ad207 = ad209 := (by injection e209); replace p209 := eq_true p209; replace q209 := eq_true q209))
        go_meet
        case rel => exact ⟨_, (false), (by first | rfl | (simp; done) | (simp [*]; done)), H', ⟨by first | omega | exact Nat.le_refl _⟩, ⟨by (with_reducible repeat (first | apply Kd.V_alloc | apply Kd.V_drewN | apply Kd.V_drew)); exact HO202.out⟩, ⟨by (with_reducible repeat (first | apply Kd.V_alloc | apply Kd.V_drewN | apply Kd.V_drew)); exact HO205.out⟩, ⟨by (with_reducible repeat (first | refine blk_drewN ?_ _ | refine blk_drew ?_ | refine blk_alloc ?_ _)); exact BK198.out⟩, ⟨by repeat (first | (with_reducible first | exact HB.out | apply below_alloc | apply pw_below_drewN | apply below_drew1 | refine below_set ?_ GE198.out) | exact HB.out)⟩⟩
      ·replace c21 := Bool.eq_false_iff.mpr c21
       subst c21
       have H1 : (meanderlaw09_ValidMore_Mor.j0 k a1 a2 t199 false t200 t203) = some r := by rw [if_neg (show ¬ (false = true) by decide)] at H; exact H
       clear H
       have H := H1
       clear H1
       have H' := Aside0.mk H
       clear H
       have hcz27_0 : w16.cell? ⟨gb198, 0, none⟩ = some (.slice Ao13 t200.length co13) := (blk_cell BK198.out 0).trans rfl
       have hcz27_1 : w16.cell? ⟨gb198, 1, none⟩ = some (.slice Ao15 t203.length co15) := (blk_cell BK198.out 1).trans rfl
       have hfz27_0 := blk_frozen BK198.out 0
       have hfz27_1 := blk_frozen BK198.out 1
       have p207 : 0 ≤ (a1 : Int) := of_decide_eq_true (by first | (with_reducible assumption) | assumption)
       have q207 : a1 < (t200.length : Int) := of_decide_eq_true (by first | (with_reducible assumption) | assumption)
       obtain ⟨ad207, e207, hx207_0, hx207_1, hx207_2, hx207_3⟩ := at_T23 (Kd.V_reads' HO202.out).2.2 a1 p207 q207
       cases e207
       replace p207 := eq_true p207
       replace q207 := eq_true q207
       go_wp2_with (first | (go_at_call 15; (with_reducible refine (graph_HasOut.calls ((rd_T23 t200 a1).f0) false _ A20.out).mono ?_); rintro e w' ⟨rfl, ⟨nd, rfl⟩⟩))
       go_meet
       case rel => exact ⟨_, (false), (by first | rfl | (simp; done) | (simp [*]; done)), H', ⟨by first | omega | exact Nat.le_refl _⟩, ⟨by (with_reducible repeat (first | apply Kd.V_alloc | apply Kd.V_drewN | apply Kd.V_drew)); exact HO202.out⟩, ⟨by (with_reducible repeat (first | apply Kd.V_alloc | apply Kd.V_drewN | apply Kd.V_drew)); exact HO205.out⟩, ⟨by (with_reducible repeat (first | refine blk_drewN ?_ _ | refine blk_drew ?_ | refine blk_alloc ?_ _)); exact BK198.out⟩, ⟨by repeat (first | (with_reducible first | exact HB.out | apply below_alloc | apply pw_below_drewN | apply below_drew1 | refine below_set ?_ GE198.out) | exact HB.out)⟩⟩
     ·rw [if_neg c19] at H
      exact absurd H (by simp)
    ·rw [if_neg c18] at H
     have c18b0 : decide (a1 < (t200.length : Int)) = false := decide_eq_false c18
     clear c18
     have H' := Aside0.mk H
     clear H
     have hcz28_0 : w16.cell? ⟨gb198, 0, none⟩ = some (.slice Ao13 t200.length co13) := (blk_cell BK198.out 0).trans rfl
     have hcz28_1 : w16.cell? ⟨gb198, 1, none⟩ = some (.slice Ao15 t203.length co15) := (blk_cell BK198.out 1).trans rfl
     have hfz28_0 := blk_frozen BK198.out 0
     have hfz28_1 := blk_frozen BK198.out 1
     go_wp2
     go_meet
     case rel => exact ⟨_, (false), (by first | rfl | (simp; done) | (simp [*]; done)), H', ⟨by first | omega | exact Nat.le_refl _⟩, ⟨by (with_reducible repeat (first | apply Kd.V_alloc | apply Kd.V_drewN | apply Kd.V_drew)); exact HO202.out⟩, ⟨by (with_reducible repeat (first | apply Kd.V_alloc | apply Kd.V_drewN | apply Kd.V_drew)); exact HO205.out⟩, ⟨by (with_reducible repeat (first | refine blk_drewN ?_ _ | refine blk_drew ?_ | refine blk_alloc ?_ _)); exact BK198.out⟩, ⟨by repeat (first | (with_reducible first | exact HB.out | apply below_alloc | apply pw_below_drewN | apply below_drew1 | refine below_set ?_ GE198.out) | exact HB.out)⟩⟩
   ·rw [if_neg c17] at H
    have c17b0 : decide (0 ≤ a1) = false := decide_eq_false c17
    clear c17
    (first | rw [c17b0] | (simp only [i64_w, i32_w]; rw [c17b0]) | skip)
    have H' := Aside0.mk H
    clear H
    go_wp2
    go_meet
    case rel => exact ⟨_, (false), (by first | rfl | (simp; done) | (simp [*]; done)), H', ⟨by first | omega | exact Nat.le_refl _⟩, ⟨by (with_reducible repeat (first | apply Kd.V_alloc | apply Kd.V_drewN | apply Kd.V_drew)); exact HO202.out⟩, ⟨by (with_reducible repeat (first | apply Kd.V_alloc | apply Kd.V_drewN | apply Kd.V_drew)); exact HO205.out⟩, ⟨by (with_reducible repeat (first | refine blk_drewN ?_ _ | refine blk_drew ?_ | refine blk_alloc ?_ _)); exact BK198.out⟩, ⟨by repeat (first | (with_reducible first | exact HB.out | apply below_alloc | apply pw_below_drewN | apply below_drew1 | refine below_set ?_ GE198.out) | exact HB.out)⟩⟩
  case rest =>
   clear HC8
   try clear c1
   try clear c2
   try clear p2
   try clear q2
   try clear hx2
   try clear c5
   try clear c7
   try clear c7b0
   try clear c7b1
   try clear c9
   try clear c12
   try clear c13
   try clear c17
   try clear c17b0
   try clear c18
   try clear c18b0
   try clear c19
   try clear c19b0
   try clear p20
   try clear q20
   try clear hx20
   try clear c21
   try clear c22
   try clear c22b0
   try clear c22b1
   try clear c23
   try clear c23b0
   try clear c23b1
   try clear hcz11_0
   try clear hcz11_1
   try clear hcz14_0
   try clear hcz14_1
   try clear hcz24_0
   try clear hcz24_1
   try clear hcz25_0
   try clear hcz25_1
   try clear hcz26_0
   try clear hcz26_1
   try clear hcz27_0
   try clear hcz27_1
   try clear hcz28_0
   try clear hcz28_1
   try clear hfz11_0
   try clear hfz11_1
   try clear hfz14_0
   try clear hfz14_1
   try clear hfz24_0
   try clear hfz24_1
   try clear hfz25_0
   try clear hfz25_1
   try clear hfz26_0
   try clear hfz26_1
   try clear hfz27_0
   try clear hfz27_1
   try clear hfz28_0
   try clear hfz28_1
   try clear hx207_0
   try clear hx207_1
   try clear hx207_2
   try clear hx207_3
   try clear hx209_0
   try clear hx209_1
   try clear hx209_2
   try clear hx209_3
   try clear p207
   try clear p209
   try clear q207
   try clear q209
   obtain ⟨kq, x56_7, rfl, HA, HJ7, HO_199000, HO_199001, BK198, HB⟩ := hcut
   cases kq with
   | zero => exact absurd HA.out (by simp [meanderlaw09_ValidMore_Mor.j0])
   | succ kj7 =>
    have H := HA.out
    clear HA
    simp only [meanderlaw09_ValidMore_Mor.j0] at H
    have HC29 := Aside0.mk H
    clear H
    go_upto_if 56 with (fail)
    go_cut [] (fun wc => ∃ (kq : Nat), Aside0 (meanderlaw09_ValidMore_Mor.j1 kq a2 t199 t200 t203 = some r) ∧ Aside0 (kq ≤ kj7) ∧ Aside0 (Kd.V k23 23 wc w.heap.size (fun k_ => k_ ≠ gb198) (.slice Ao13 t200.length co13) t200) ∧ Aside0 (Kd.V k36 36 wc w.heap.size (fun k_ => k_ ≠ gb198) (.slice Ao15 t203.length co15) t203) ∧ Aside0 (wc.heap[gb198]? = some (.cells #[(.slice Ao13 t200.length co13), (.slice Ao15 t203.length co15)] 29 (0, 0))) ∧ Aside0 (Below w.heap.size w wc))
    case first =>
     have H := HC29.out
     clear HC29
     by_cases c30 : x56_7 = true
     ·subst c30
      have H1 : ((some (([] : List (S23)) : List (S23))).bind fun y210 => (if y210.length + t200.length < 4398046511104 then ((some (y210 ++ t200 : List (S23))).bind fun y213 => (if y213.length < 4398046511104 then ((some (([] : List (S36)) : List (S36))).bind fun y219 => (if y219.length + t203.length < 5864062014805 then ((some (y219 ++ t203 : List (S36))).bind fun y222 => (if y222.length < 5864062014805 then ((valid_Graph.f kj7 (y213 ++ [(⟨11, 0, 0, 0⟩ : S23)]) (y222 ++ [(⟨a1, (t200.length : Int), 0⟩ : S36)])).bind fun t229 => (if t229 = 0 then (meanderlaw09_ValidMore_Mor.j1 kj7 a2 t199 t200 t203) else (none))) else (none))) else (none))) else (none))) else (none))) = some r := by rw [if_pos rfl] at H; exact H
      clear H
      have H := H1
      clear H1
      obtain ⟨y210, hy210⟩ : ∃ y_ : List (S23), y_ = (([] : List (S23))) := ⟨_, rfl⟩
      replace H : (if y210.length + t200.length < 4398046511104 then ((some (y210 ++ t200 : List (S23))).bind fun y213 => (if y213.length < 4398046511104 then ((some (([] : List (S36)) : List (S36))).bind fun y219 => (if y219.length + t203.length < 5864062014805 then ((some (y219 ++ t203 : List (S36))).bind fun y222 => (if y222.length < 5864062014805 then ((valid_Graph.f kj7 (y213 ++ [(⟨11, 0, 0, 0⟩ : S23)]) (y222 ++ [(⟨a1, (t200.length : Int), 0⟩ : S36)])).bind fun t229 => (if t229 = 0 then (meanderlaw09_ValidMore_Mor.j1 kj7 a2 t199 t200 t203) else (none))) else (none))) else (none))) else (none))) else (none)) = some r := by first | (rw [hy210]; with_reducible exact H) | (have H2_ := (Option.bind_some _ _).symm.trans H; rw [hy210]; with_reducible exact H2_) | (have H2_ := (Option.bind_some _ _).symm.trans H; with_reducible exact H2_) | with_reducible exact H | (rw [hy210]; exact H) | exact H
      have Ny210 := Aside0.mk hy210
      clear hy210
      by_cases c31 : y210.length + t200.length < 4398046511104
      ·rw [if_pos c31] at H
       have LMc31 := Aside0.mk c31
       clear c31
       obtain ⟨y213, hy213⟩ : ∃ y_ : List (S23), y_ = (y210 ++ t200) := ⟨_, rfl⟩
       replace H : (if y213.length < 4398046511104 then ((some (([] : List (S36)) : List (S36))).bind fun y219 => (if y219.length + t203.length < 5864062014805 then ((some (y219 ++ t203 : List (S36))).bind fun y222 => (if y222.length < 5864062014805 then ((valid_Graph.f kj7 (y213 ++ [(⟨11, 0, 0, 0⟩ : S23)]) (y222 ++ [(⟨a1, (t200.length : Int), 0⟩ : S36)])).bind fun t229 => (if t229 = 0 then (meanderlaw09_ValidMore_Mor.j1 kj7 a2 t199 t200 t203) else (none))) else (none))) else (none))) else (none)) = some r := by first | (rw [hy213]; with_reducible exact H) | (have H2_ := (Option.bind_some _ _).symm.trans H; rw [hy213]; with_reducible exact H2_) | (have H2_ := (Option.bind_some _ _).symm.trans H; with_reducible exact H2_) | with_reducible exact H | (rw [hy213]; exact H) | exact H
       have Ny213 := Aside0.mk hy213
       clear hy213
       by_cases c32 : y213.length < 4398046511104
       ·rw [if_pos c32] at H
        have LMc32 := Aside0.mk c32
        clear c32
        obtain ⟨y216, hy216⟩ : ∃ y_ : List (S23), y_ = (y213 ++ [(⟨11, 0, 0, 0⟩ : S23)]) := ⟨_, rfl⟩
        replace H : ((some (([] : List (S36)) : List (S36))).bind fun y219 => (if y219.length + t203.length < 5864062014805 then ((some (y219 ++ t203 : List (S36))).bind fun y222 => (if y222.length < 5864062014805 then ((valid_Graph.f kj7 y216 (y222 ++ [(⟨a1, (t200.length : Int), 0⟩ : S36)])).bind fun t229 => (if t229 = 0 then (meanderlaw09_ValidMore_Mor.j1 kj7 a2 t199 t200 t203) else (none))) else (none))) else (none))) = some r := by first | (rw [hy216]; with_reducible exact H) | (have H2_ := (Option.bind_some _ _).symm.trans H; rw [hy216]; with_reducible exact H2_) | (have H2_ := (Option.bind_some _ _).symm.trans H; with_reducible exact H2_) | with_reducible exact H | (rw [hy216]; exact H) | exact H
        have Ny216 := Aside0.mk hy216
        clear hy216
        obtain ⟨y219, hy219⟩ : ∃ y_ : List (S36), y_ = (([] : List (S36))) := ⟨_, rfl⟩
        replace H : (if y219.length + t203.length < 5864062014805 then ((some (y219 ++ t203 : List (S36))).bind fun y222 => (if y222.length < 5864062014805 then ((valid_Graph.f kj7 y216 (y222 ++ [(⟨a1, (t200.length : Int), 0⟩ : S36)])).bind fun t229 => (if t229 = 0 then (meanderlaw09_ValidMore_Mor.j1 kj7 a2 t199 t200 t203) else (none))) else (none))) else (none)) = some r := by first | (rw [hy219]; with_reducible exact H) | (have H2_ := (Option.bind_some _ _).symm.trans H; rw [hy219]; with_reducible exact H2_) | (have H2_ := (Option.bind_some _ _).symm.trans H; with_reducible exact H2_) | with_reducible exact H | (rw [hy219]; exact H) | exact H
        have Ny219 := Aside0.mk hy219
        clear hy219
        by_cases c33 : y219.length + t203.length < 5864062014805
        ·rw [if_pos c33] at H
         have LMc33 := Aside0.mk c33
         clear c33
         obtain ⟨y222, hy222⟩ : ∃ y_ : List (S36), y_ = (y219 ++ t203) := ⟨_, rfl⟩
         replace H : (if y222.length < 5864062014805 then ((valid_Graph.f kj7 y216 (y222 ++ [(⟨a1, (t200.length : Int), 0⟩ : S36)])).bind fun t229 => (if t229 = 0 then (meanderlaw09_ValidMore_Mor.j1 kj7 a2 t199 t200 t203) else (none))) else (none)) = some r := by first | (rw [hy222]; with_reducible exact H) | (have H2_ := (Option.bind_some _ _).symm.trans H; rw [hy222]; with_reducible exact H2_) | (have H2_ := (Option.bind_some _ _).symm.trans H; with_reducible exact H2_) | with_reducible exact H | (rw [hy222]; exact H) | exact H
         have Ny222 := Aside0.mk hy222
         clear hy222
         by_cases c34 : y222.length < 5864062014805
         ·rw [if_pos c34] at H
          have LMc34 := Aside0.mk c34
          clear c34
          obtain ⟨y225, hy225⟩ : ∃ y_ : List (S36), y_ = (y222 ++ [(⟨a1, (t200.length : Int), 0⟩ : S36)]) := ⟨_, rfl⟩
          replace H : ((valid_Graph.f kj7 y216 y225).bind fun t229 => (if t229 = 0 then (meanderlaw09_ValidMore_Mor.j1 kj7 a2 t199 t200 t203) else (none))) = some r := by first | (rw [hy225]; with_reducible exact H) | (have H2_ := (Option.bind_some _ _).symm.trans H; rw [hy225]; with_reducible exact H2_) | (have H2_ := (Option.bind_some _ _).symm.trans H; with_reducible exact H2_) | with_reducible exact H | (rw [hy225]; exact H) | exact H
          have Ny225 := Aside0.mk hy225
          clear hy225
          replace H := Option.bind_eq_some_iff.mp H
          obtain ⟨t229, A350, H⟩ := H
          replace H : (if t229 = 0 then (meanderlaw09_ValidMore_Mor.j1 kj7 a2 t199 t200 t203) else (none)) = some r := H
          have A35 := Aside0.mk A350
          clear A350
          by_cases c36 : t229 = 0
          ·rw [if_pos c36] at H
           have c36b0 : (t229 == 0) = true := beq_iff_eq.mpr c36
           have c36b1 : (t229 != 0) = false := bne_eq_false_iff_eq.mpr c36
           clear c36
           (first | rw [c36b0] | (simp only [i64_w, i32_w]; rw [c36b0]) | skip)
           have H' := Aside0.mk H
           clear H
           go_upto_region 6 with (fail)
           have hs0_ : wc.drew.cell? ⟨gb198, 0, none⟩ = some (.slice Ao13 t200.length co13) := (blk_cell BK198.out 0).trans rfl
           have hs1_ : wc.drew.cell? ⟨gb198, 1, none⟩ = some (.slice Ao15 t203.length co15) := (blk_cell BK198.out 1).trans rfl
           refine start_ (n := 21) (S := fun w' => w'.cell? ⟨gb198, 0, none⟩ = some (.slice Ao13 t200.length co13) ∧ w'.cell? ⟨gb198, 1, none⟩ = some (.slice Ao15 t203.length co15)) (ds := [20]) #[false, false, false, false, false, false, false, false, false, false, false, false, false, false, false, false, false, false, false, false, false] (by kernel_rfl) rfl rfl ⟨hs0_, hs1_⟩ (fun hHeld => ?_)
           clear hs0_ hs1_
           refine Hand.pv_ #[false, true, false, false, false, false, false, false, false, false, false, false, false, false, false, false, false, false, false, false, false] 1 58 ?_
           refine Hand.tv_ #[false, true, true, false, false, false, false, false, false, false, false, false, false, false, false, false, false, false, false, false, false] hHeld 2 59 ?_
           refine Hand.pv_ #[false, true, true, false, true, false, false, false, false, false, false, false, false, false, false, false, false, false, false, false, false] 4 61 ?_
           refine Hand.pv_ #[false, true, true, false, true, false, false, false, true, false, false, false, false, false, false, false, false, false, false, false, false] 8 65 ?_
           refine Hand.tv_ #[false, true, true, false, true, false, false, false, true, true, false, false, false, false, false, false, false, false, false, false, false] hHeld 9 66 ?_
           refine Hand.pv_ #[false, true, true, false, true, false, false, false, true, true, false, true, false, false, false, false, false, false, false, false, false] 11 68 ?_
           refine Hand.pv_ #[false, true, true, false, true, false, false, false, true, true, false, true, true, false, false, false, false, false, false, false, false] 12 69 ?_
           refine Hand.tv_ #[false, true, true, false, true, false, false, false, true, true, false, true, true, true, false, false, false, false, false, false, false] hHeld 13 70 ?_
           refine Hand.pv_ #[false, true, true, false, true, false, false, false, true, true, false, true, true, true, true, false, false, false, false, false, false] 14 71 ?_
           refine Hand.pv_ #[false, true, true, false, true, false, false, false, true, true, false, true, true, true, true, true, false, false, false, false, false] 15 72 ?_
           refine Hand.reg6 t200 t203 a1 (A0 := Ao13) (A1 := Ao15) (c0 := co13) (c1 := co15) (by decide) rfl rfl rfl rfl rfl (Kd.C_drew (Kd.V_reads' HO_199000.out).2.2 ) (Kd.C_drew (Kd.V_reads' HO_199001.out).2.2) (by have := LMc31.out; omega) (by have := LMc33.out; omega) (fun w1 hb_ => ⟨(hb_.cell (World.block_lt_of_cell? _ _ hHeld.1)).trans hHeld.1, (hb_.cell (World.block_lt_of_cell? _ _ hHeld.2)).trans hHeld.2⟩) (fun vs b8 w8 e19 e18 hR6 hR17 hbk hge hb_ a' ea => ?_)
           clear hHeld
           rw [show t200 ++ [(⟨11, 0, 0, 0⟩ : S23)] = y216 from by rw [Ny216.out, Ny213.out, Ny210.out]; rfl] at hR6
           rw [show t203 ++ [(⟨a1, (t200.length : Int), 0⟩ : S36)] = y225 from by rw [Ny225.out, Ny222.out, Ny219.out]; rfl] at hR17
           obtain ⟨A6_, k6_, ev6⟩ := Kd.R_slice hR6
           obtain ⟨A17_, k17_, ev17⟩ := Kd.R_slice hR17
           rw [ev6, ev17] at e18 hbk
           rw [ev6] at hR6
           rw [ev17] at hR17
           replace ea : a' = Act.put (Act.put (Act.put (Act.put (Act.put (Act.put (Act.put (Act.put (Act.put (Act.put _ (some 57) (vs 0)) (some 60) (vs 3)) (some 62) (vs 5)) (some 63) (vs 6)) (some 64) (vs 7)) (some 67) (vs 10)) (some 73) (vs 16)) (some 74) (vs 17)) (some 75) (vs 18)) (some 8) (vs 19) := ea
           simp only [Act.put, List.setIfInBounds_toArray, List.set_cons_zero, List.set_cons_succ, e19, e18, ev6, ev17] at ea
           subst ea
           clear e19 e18 ev6 ev17
           have n0_ := Aside0.mk (Kd.V_below (Kd.V_drew HO_199000.out) hb_)
           have n1_ := Aside0.mk (Kd.V_below (Kd.V_drew HO_199001.out) hb_)
           have n2_ := Aside0.mk (blk_below (blk_drew BK198.out) hb_)
           have n3_ := Aside0.mk (below_step (below_drew1 HB.out) hb_)
           clear HO_199000 HO_199001 BK198 HB
           have HO_199000 := n0_
           have HO_199001 := n1_
           have BK198 := n2_
           have HB := n3_
           clear n0_ n1_ n2_ n3_
           have rR6_ := Aside0.mk hR6
           clear hR6
           have rR17_ := Aside0.mk hR17
           clear hR17
           clear hge hb_
           have hc0_ : w8.cell? ⟨b8, 0, none⟩ = some (.slice A6_ y216.length k6_) := (blk_cell hbk 0).trans rfl
           have hc1_ : w8.cell? ⟨b8, 1, none⟩ = some (.slice A17_ y225.length k17_) := (blk_cell hbk 1).trans rfl
           clear hbk
           go_wp2_with (go_at_call 13; (with_reducible refine (valid_Graph.calls kj7 _ _ y216 _ _ y225 t229 _ ?s1 ?s2 ?s3 ?s4 A35.out).mono ?_); (case s1 => exact (Kd.R_reads' rR6_.out).2.2); (case s2 => exact (Kd.R_reads' rR6_.out).2.1); (case s3 => exact (Kd.R_reads' rR17_.out).2.2); (case s4 => exact (Kd.R_reads' rR17_.out).2.1); rintro e w_ ⟨rfl, hb_⟩; have n0_ := Aside0.mk (Kd.V_below HO_199000.out hb_); have n1_ := Aside0.mk (Kd.V_below HO_199001.out hb_); have n2_ := Aside0.mk (blk_below BK198.out hb_); have n3_ := Aside0.mk (below_step HB.out hb_); clear HO_199000 HO_199001 BK198 HB; have HO_199000 := n0_; have HO_199001 := n1_; have BK198 := n2_; have HB := n3_; clear n0_ n1_ n2_ n3_; clear hb_)
           go_meet
           case rel => exact ⟨_, H', ⟨by have := HJ7.out; first | omega | exact Nat.le_refl _⟩, ⟨by (with_reducible repeat (first | apply Kd.V_alloc | apply Kd.V_drewN | apply Kd.V_drew)); exact HO_199000.out⟩, ⟨by (with_reducible repeat (first | apply Kd.V_alloc | apply Kd.V_drewN | apply Kd.V_drew)); exact HO_199001.out⟩, ⟨by (with_reducible repeat (first | refine blk_drewN ?_ _ | refine blk_drew ?_ | refine blk_alloc ?_ _)); exact BK198.out⟩, ⟨by repeat (first | (with_reducible first | exact HB.out | apply below_alloc | apply pw_below_drewN | apply below_drew1 | refine below_set ?_ GE198.out | refine below_set ?_ GE228.out) | exact HB.out)⟩⟩
          ·rw [if_neg c36] at H
           exact absurd H (by simp)
         ·rw [if_neg c34] at H
          exact absurd H (by simp)
        ·rw [if_neg c33] at H
         exact absurd H (by simp)
       ·rw [if_neg c32] at H
        exact absurd H (by simp)
      ·rw [if_neg c31] at H
       exact absurd H (by simp)
     ·replace c30 := Bool.eq_false_iff.mpr c30
      subst c30
      have H1 : (meanderlaw09_ValidMore_Mor.j1 kj7 a2 t199 t200 t203) = some r := by rw [if_neg (show ¬ (false = true) by decide)] at H; exact H
      clear H
      have H := H1
      clear H1
      have H' := Aside0.mk H
      clear H
      go_wp2
      go_meet
      case rel => exact ⟨_, H', ⟨by have := HJ7.out; first | omega | exact Nat.le_refl _⟩, ⟨by (with_reducible repeat (first | apply Kd.V_alloc | apply Kd.V_drewN | apply Kd.V_drew)); exact HO_199000.out⟩, ⟨by (with_reducible repeat (first | apply Kd.V_alloc | apply Kd.V_drewN | apply Kd.V_drew)); exact HO_199001.out⟩, ⟨by (with_reducible repeat (first | refine blk_drewN ?_ _ | refine blk_drew ?_ | refine blk_alloc ?_ _)); exact BK198.out⟩, ⟨by repeat (first | (with_reducible first | exact HB.out | apply below_alloc | apply pw_below_drewN | apply below_drew1 | refine below_set ?_ GE198.out) | exact HB.out)⟩⟩
    case rest =>
     clear HC29
     try clear c1
     try clear c2
     try clear p2
     try clear q2
     try clear hx2
     try clear c3
     try clear c5
     try clear c7
     try clear c7b0
     try clear c7b1
     try clear c9
     try clear c12
     try clear c13
     try clear c17
     try clear c17b0
     try clear c18
     try clear c18b0
     try clear c19
     try clear c19b0
     try clear p20
     try clear q20
     try clear hx20
     try clear c21
     try clear c22
     try clear c22b0
     try clear c22b1
     try clear c23
     try clear c23b0
     try clear c23b1
     try clear c30
     try clear c31
     try clear c32
     try clear c33
     try clear c34
     try clear c36
     try clear c36b0
     try clear c36b1
     try clear c51
     try clear hcz11_0
     try clear hcz11_1
     try clear hcz14_0
     try clear hcz14_1
     try clear hcz24_0
     try clear hcz24_1
     try clear hcz25_0
     try clear hcz25_1
     try clear hcz26_0
     try clear hcz26_1
     try clear hcz27_0
     try clear hcz27_1
     try clear hcz28_0
     try clear hcz28_1
     try clear hcz39_0
     try clear hcz39_1
     try clear hcz44_0
     try clear hcz44_1
     try clear hcz46_0
     try clear hcz46_1
     try clear hcz52_0
     try clear hcz52_1
     try clear hfz11_0
     try clear hfz11_1
     try clear hfz14_0
     try clear hfz14_1
     try clear hfz24_0
     try clear hfz24_1
     try clear hfz25_0
     try clear hfz25_1
     try clear hfz26_0
     try clear hfz26_1
     try clear hfz27_0
     try clear hfz27_1
     try clear hfz28_0
     try clear hfz28_1
     try clear hfz39_0
     try clear hfz39_1
     try clear hfz44_0
     try clear hfz44_1
     try clear hfz46_0
     try clear hfz46_1
     try clear hfz52_0
     try clear hfz52_1
     try clear hx207_0
     try clear hx207_1
     try clear hx207_2
     try clear hx207_3
     try clear hx209_0
     try clear hx209_1
     try clear hx209_2
     try clear hx209_3
     try clear p2
     try clear p20
     try clear p207
     try clear p209
     try clear q2
     try clear q20
     try clear q207
     try clear q209
     obtain ⟨kq, HA, HJ28, HO_199000, HO_199001, BK198, HB⟩ := hcut
     cases kq with
     | zero => exact absurd HA.out (by simp [meanderlaw09_ValidMore_Mor.j1])
     | succ kj28 =>
      have H := HA.out
      clear HA
      simp only [meanderlaw09_ValidMore_Mor.j1] at H
      have HC54 := Aside0.mk H
      clear H
      go_upto_region 9 with (fail)
      go_cut [87] (fun v87 wc => ∃ (kq : Nat) (x87_53 : Bool), v87 = .bool x87_53 ∧ Aside0 (meanderlaw09_ValidMore_Mor.j2 kq a2 t199 x87_53 t200 t203 = some r) ∧ Aside0 (kq ≤ kj28) ∧ Aside0 (Kd.V k23 23 wc w.heap.size (fun k_ => k_ ≠ gb198) (.slice Ao13 t200.length co13) t200) ∧ Aside0 (Kd.V k36 36 wc w.heap.size (fun k_ => k_ ≠ gb198) (.slice Ao15 t203.length co15) t203) ∧ Aside0 (wc.heap[gb198]? = some (.cells #[(.slice Ao13 t200.length co13), (.slice Ao15 t203.length co15)] 29 (0, 0))) ∧ Aside0 (Below w.heap.size w wc))
      case first =>
       have H := HC54.out
       clear HC54
       by_cases c55 : a2 < 0
       ·rw [if_pos c55] at H
        have c55b0 : decide (a2 < 0) = true := decide_eq_true c55
        clear c55
        (first | rw [c55b0] | (simp only [i64_w, i32_w]; rw [c55b0]) | skip)
        have H' := Aside0.mk H
        clear H
        go_wp2
        go_meet
        case rel => exact ⟨_, (true), (by first | rfl | (simp; done) | (simp [*]; done)), H', ⟨by have := HJ7.out; have := HJ28.out; first | omega | exact Nat.le_refl _⟩, ⟨by (with_reducible repeat (first | apply Kd.V_alloc | apply Kd.V_drewN | apply Kd.V_drew)); exact HO_199000.out⟩, ⟨by (with_reducible repeat (first | apply Kd.V_alloc | apply Kd.V_drewN | apply Kd.V_drew)); exact HO_199001.out⟩, ⟨by (with_reducible repeat (first | refine blk_drewN ?_ _ | refine blk_drew ?_ | refine blk_alloc ?_ _)); exact BK198.out⟩, ⟨by repeat (first | (with_reducible first | exact HB.out | apply below_alloc | apply pw_below_drewN | apply below_drew1 | refine below_set ?_ GE198.out) | exact HB.out)⟩⟩
       ·rw [if_neg c55] at H
        have c55b0 : decide (a2 < 0) = false := decide_eq_false c55
        clear c55
        (first | rw [c55b0] | (simp only [i64_w, i32_w]; rw [c55b0]) | skip)
        have H' := Aside0.mk H
        clear H
        have hcz56_0 : wc.cell? ⟨gb198, 0, none⟩ = some (.slice Ao13 t200.length co13) := (blk_cell BK198.out 0).trans rfl
        have hcz56_1 : wc.cell? ⟨gb198, 1, none⟩ = some (.slice Ao15 t203.length co15) := (blk_cell BK198.out 1).trans rfl
        have hfz56_0 := blk_frozen BK198.out 0
        have hfz56_1 := blk_frozen BK198.out 1
        go_wp2
        go_meet
        case rel => exact ⟨_, (decide (a2 ≥ (t203.length : Int))), (by first | rfl | (simp; done) | (simp [*]; done)), H', ⟨by have := HJ7.out; have := HJ28.out; first | omega | exact Nat.le_refl _⟩, ⟨by (with_reducible repeat (first | apply Kd.V_alloc | apply Kd.V_drewN | apply Kd.V_drew)); exact HO_199000.out⟩, ⟨by (with_reducible repeat (first | apply Kd.V_alloc | apply Kd.V_drewN | apply Kd.V_drew)); exact HO_199001.out⟩, ⟨by (with_reducible repeat (first | refine blk_drewN ?_ _ | refine blk_drew ?_ | refine blk_alloc ?_ _)); exact BK198.out⟩, ⟨by repeat (first | (with_reducible first | exact HB.out | apply below_alloc | apply pw_below_drewN | apply below_drew1 | refine below_set ?_ GE198.out) | exact HB.out)⟩⟩
      case rest =>
       clear HC54
       try clear c1
       try clear c2
       try clear p2
       try clear q2
       try clear hx2
       try clear c3
       try clear c5
       try clear c7
       try clear c7b0
       try clear c7b1
       try clear c9
       try clear c12
       try clear c13
       try clear c17
       try clear c17b0
       try clear c18
       try clear c18b0
       try clear c19
       try clear c19b0
       try clear p20
       try clear q20
       try clear hx20
       try clear c21
       try clear c22
       try clear c22b0
       try clear c22b1
       try clear c23
       try clear c23b0
       try clear c23b1
       try clear c30
       try clear c31
       try clear c32
       try clear c33
       try clear c34
       try clear c36
       try clear c36b0
       try clear c36b1
       try clear c51
       try clear c55
       try clear c55b0
       try clear hcz11_0
       try clear hcz11_1
       try clear hcz14_0
       try clear hcz14_1
       try clear hcz24_0
       try clear hcz24_1
       try clear hcz25_0
       try clear hcz25_1
       try clear hcz26_0
       try clear hcz26_1
       try clear hcz27_0
       try clear hcz27_1
       try clear hcz28_0
       try clear hcz28_1
       try clear hcz39_0
       try clear hcz39_1
       try clear hcz44_0
       try clear hcz44_1
       try clear hcz46_0
       try clear hcz46_1
       try clear hcz52_0
       try clear hcz52_1
       try clear hcz56_0
       try clear hcz56_1
       try clear hfz11_0
       try clear hfz11_1
       try clear hfz14_0
       try clear hfz14_1
       try clear hfz24_0
       try clear hfz24_1
       try clear hfz25_0
       try clear hfz25_1
       try clear hfz26_0
       try clear hfz26_1
       try clear hfz27_0
       try clear hfz27_1
       try clear hfz28_0
       try clear hfz28_1
       try clear hfz39_0
       try clear hfz39_1
       try clear hfz44_0
       try clear hfz44_1
       try clear hfz46_0
       try clear hfz46_1
       try clear hfz52_0
       try clear hfz52_1
       try clear hfz56_0
       try clear hfz56_1
       try clear hx207_0
       try clear hx207_1
       try clear hx207_2
       try clear hx207_3
       try clear hx209_0
       try clear hx209_1
       try clear hx209_2
       try clear hx209_3
       try clear p2
       try clear p20
       try clear p207
       try clear p209
       try clear q2
       try clear q20
       try clear q207
       try clear q209
       obtain ⟨kq, x87_53, rfl, HA, HJ53, HO_199000, HO_199001, BK198, HB⟩ := hcut
       cases kq with
       | zero => exact absurd HA.out (by simp [meanderlaw09_ValidMore_Mor.j2])
       | succ kj53 =>
        have H := HA.out
        clear HA
        simp only [meanderlaw09_ValidMore_Mor.j2] at H
        by_cases c57 : x87_53 = true
        ·subst c57
         have H1 : (some t199) = some r := by rw [if_pos rfl] at H; exact H
         clear H
         have H := H1
         clear H1
         obtain rfl := Option.some.inj H
         go_wp2
         go_ret
         exact ⟨by first | rfl | (simp [errW_none, errW_some] <;> rfl) | (simp [*, errW_none, errW_some] <;> rfl), by repeat (first | (with_reducible first | exact HB.out | apply below_alloc | apply pw_below_drewN | apply below_drew1 | refine below_set ?_ GE198.out) | exact HB.out)⟩
        ·replace c57 := Bool.eq_false_iff.mpr c57
         subst c57
         have H1 : ((some (([] : List (S36)) : List (S36))).bind fun y230 => (if 0 ≤ a2 then (if a2 ≤ (t203.length : Int) then ((some (t203.take (a2 : Int).toNat : List (S36))).bind fun y233 => (if y230.length + y233.length < 5864062014805 then ((some (y230 ++ y233 : List (S36))).bind fun y238 => (if 0 ≤ (wrap64 (a2 + 1)) then (if (wrap64 (a2 + 1)) ≤ (t203.length : Int) then ((some (t203.drop ((wrap64 (a2 + 1)) : Int).toNat : List (S36))).bind fun y241 => (if y238.length + y241.length < 5864062014805 then ((some (([] : List (S36)) : List (S36))).bind fun y250 => (if y250.length + t203.length < 5864062014805 then ((some (y250 ++ t203 : List (S36))).bind fun y253 => (if a2 < (t203.length : Int) then (if y253.length < 5864062014805 then (if t199 = true then ((valid_Graph.f kj53 t200 (y238 ++ y241)).bind fun t261 => (if t261 = 13 then (if (t203.length : Int) ≥ 24 then (some true) else ((valid_Graph.f kj53 t200 (y253 ++ [(⟨(rd_T36 t203 a2).f0, (rd_T36 t203 a2).f1, (rd_T36 t203 a2).f2⟩ : S36)])).bind fun t262 => (some (t262 == 13)))) else (none))) else (none)) else (none)) else (none))) else (none))) else (none))) else (none)) else (none))) else (none))) else (none)) else (none))) = some r := by rw [if_neg (show ¬ (false = true) by decide)] at H; exact H
         clear H
         have H := H1
         clear H1
         obtain ⟨y230, hy230⟩ : ∃ y_ : List (S36), y_ = (([] : List (S36))) := ⟨_, rfl⟩
         replace H : (if 0 ≤ a2 then (if a2 ≤ (t203.length : Int) then ((some (t203.take (a2 : Int).toNat : List (S36))).bind fun y233 => (if y230.length + y233.length < 5864062014805 then ((some (y230 ++ y233 : List (S36))).bind fun y238 => (if 0 ≤ (wrap64 (a2 + 1)) then (if (wrap64 (a2 + 1)) ≤ (t203.length : Int) then ((some (t203.drop ((wrap64 (a2 + 1)) : Int).toNat : List (S36))).bind fun y241 => (if y238.length + y241.length < 5864062014805 then ((some (([] : List (S36)) : List (S36))).bind fun y250 => (if y250.length + t203.length < 5864062014805 then ((some (y250 ++ t203 : List (S36))).bind fun y253 => (if a2 < (t203.length : Int) then (if y253.length < 5864062014805 then (if t199 = true then ((valid_Graph.f kj53 t200 (y238 ++ y241)).bind fun t261 => (if t261 = 13 then (if (t203.length : Int) ≥ 24 then (some true) else ((valid_Graph.f kj53 t200 (y253 ++ [(⟨(rd_T36 t203 a2).f0, (rd_T36 t203 a2).f1, (rd_T36 t203 a2).f2⟩ : S36)])).bind fun t262 => (some (t262 == 13)))) else (none))) else (none)) else (none)) else (none))) else (none))) else (none))) else (none)) else (none))) else (none))) else (none)) else (none)) = some r := by first | (rw [hy230]; with_reducible exact H) | (have H2_ := (Option.bind_some _ _).symm.trans H; rw [hy230]; with_reducible exact H2_) | (have H2_ := (Option.bind_some _ _).symm.trans H; with_reducible exact H2_) | with_reducible exact H | (rw [hy230]; exact H) | exact H
         have Ny230 := Aside0.mk hy230
         clear hy230
         by_cases c58 : 0 ≤ a2
         ·rw [if_pos c58] at H
          have c58b0 := eq_true c58
          have c58b1 : decide (0 ≤ a2) = true := decide_eq_true c58
          clear c58
          by_cases c59 : a2 ≤ (t203.length : Int)
          ·rw [if_pos c59] at H
           have c59b0 := eq_true c59
           have c59b1 : decide (a2 ≤ (t203.length : Int)) = true := decide_eq_true c59
           clear c59
           obtain ⟨y233, hy233⟩ : ∃ y_ : List (S36), y_ = (t203.take (a2 : Int).toNat) := ⟨_, rfl⟩
           replace H : (if y230.length + y233.length < 5864062014805 then ((some (y230 ++ y233 : List (S36))).bind fun y238 => (if 0 ≤ (wrap64 (a2 + 1)) then (if (wrap64 (a2 + 1)) ≤ (t203.length : Int) then ((some (t203.drop ((wrap64 (a2 + 1)) : Int).toNat : List (S36))).bind fun y241 => (if y238.length + y241.length < 5864062014805 then ((some (([] : List (S36)) : List (S36))).bind fun y250 => (if y250.length + t203.length < 5864062014805 then ((some (y250 ++ t203 : List (S36))).bind fun y253 => (if a2 < (t203.length : Int) then (if y253.length < 5864062014805 then (if t199 = true then ((valid_Graph.f kj53 t200 (y238 ++ y241)).bind fun t261 => (if t261 = 13 then (if (t203.length : Int) ≥ 24 then (some true) else ((valid_Graph.f kj53 t200 (y253 ++ [(⟨(rd_T36 t203 a2).f0, (rd_T36 t203 a2).f1, (rd_T36 t203 a2).f2⟩ : S36)])).bind fun t262 => (some (t262 == 13)))) else (none))) else (none)) else (none)) else (none))) else (none))) else (none))) else (none)) else (none))) else (none)) = some r := by first | (rw [hy233]; with_reducible exact H) | (have H2_ := (Option.bind_some _ _).symm.trans H; rw [hy233]; with_reducible exact H2_) | (have H2_ := (Option.bind_some _ _).symm.trans H; with_reducible exact H2_) | with_reducible exact H | (rw [hy233]; exact H) | exact H
           have Ny233 := Aside0.mk hy233
           clear hy233
           by_cases c60 : y230.length + y233.length < 5864062014805
           ·rw [if_pos c60] at H
            have LMc60 := Aside0.mk c60
            clear c60
            obtain ⟨y238, hy238⟩ : ∃ y_ : List (S36), y_ = (y230 ++ y233) := ⟨_, rfl⟩
            replace H : (if 0 ≤ (wrap64 (a2 + 1)) then (if (wrap64 (a2 + 1)) ≤ (t203.length : Int) then ((some (t203.drop ((wrap64 (a2 + 1)) : Int).toNat : List (S36))).bind fun y241 => (if y238.length + y241.length < 5864062014805 then ((some (([] : List (S36)) : List (S36))).bind fun y250 => (if y250.length + t203.length < 5864062014805 then ((some (y250 ++ t203 : List (S36))).bind fun y253 => (if a2 < (t203.length : Int) then (if y253.length < 5864062014805 then (if t199 = true then ((valid_Graph.f kj53 t200 (y238 ++ y241)).bind fun t261 => (if t261 = 13 then (if (t203.length : Int) ≥ 24 then (some true) else ((valid_Graph.f kj53 t200 (y253 ++ [(⟨(rd_T36 t203 a2).f0, (rd_T36 t203 a2).f1, (rd_T36 t203 a2).f2⟩ : S36)])).bind fun t262 => (some (t262 == 13)))) else (none))) else (none)) else (none)) else (none))) else (none))) else (none))) else (none)) else (none)) = some r := by first | (rw [hy238]; with_reducible exact H) | (have H2_ := (Option.bind_some _ _).symm.trans H; rw [hy238]; with_reducible exact H2_) | (have H2_ := (Option.bind_some _ _).symm.trans H; with_reducible exact H2_) | with_reducible exact H | (rw [hy238]; exact H) | exact H
            have Ny238 := Aside0.mk hy238
            clear hy238
            obtain ⟨ji61, hji61⟩ : ∃ j_ : Int, (wrap64 (a2 + 1)) = j_ := ⟨_, rfl⟩
            replace H : (if 0 ≤ (ji61) then (if (ji61) ≤ (t203.length : Int) then ((some (t203.drop ((ji61) : Int).toNat : List (S36))).bind fun y241 => (if y238.length + y241.length < 5864062014805 then ((some (([] : List (S36)) : List (S36))).bind fun y250 => (if y250.length + t203.length < 5864062014805 then ((some (y250 ++ t203 : List (S36))).bind fun y253 => (if a2 < (t203.length : Int) then (if y253.length < 5864062014805 then (if t199 = true then ((valid_Graph.f kj53 t200 (y238 ++ y241)).bind fun t261 => (if t261 = 13 then (if (t203.length : Int) ≥ 24 then (some true) else ((valid_Graph.f kj53 t200 (y253 ++ [(⟨(rd_T36 t203 a2).f0, (rd_T36 t203 a2).f1, (rd_T36 t203 a2).f2⟩ : S36)])).bind fun t262 => (some (t262 == 13)))) else (none))) else (none)) else (none)) else (none))) else (none))) else (none))) else (none)) else (none)) = some r := by first | (rw [hji61] at H; exact H) | (simp only [hji61] at H ⊢; exact H)
            have hji61w : (IntKind.i64.wrap (a2 + 1)) = ji61 := (i64_w _).trans hji61
            by_cases c62 : 0 ≤ (ji61)
            ·rw [if_pos c62] at H
             have c62b0 := eq_true c62
             have c62b1 : decide (0 ≤ (ji61)) = true := decide_eq_true c62
             clear c62
             by_cases c63 : (ji61) ≤ (t203.length : Int)
             ·rw [if_pos c63] at H
              have c63b0 := eq_true c63
              have c63b1 : decide ((ji61) ≤ (t203.length : Int)) = true := decide_eq_true c63
              clear c63
              obtain ⟨y241, hy241⟩ : ∃ y_ : List (S36), y_ = (t203.drop ((ji61) : Int).toNat) := ⟨_, rfl⟩
              replace H : (if y238.length + y241.length < 5864062014805 then ((some (([] : List (S36)) : List (S36))).bind fun y250 => (if y250.length + t203.length < 5864062014805 then ((some (y250 ++ t203 : List (S36))).bind fun y253 => (if a2 < (t203.length : Int) then (if y253.length < 5864062014805 then (if t199 = true then ((valid_Graph.f kj53 t200 (y238 ++ y241)).bind fun t261 => (if t261 = 13 then (if (t203.length : Int) ≥ 24 then (some true) else ((valid_Graph.f kj53 t200 (y253 ++ [(⟨(rd_T36 t203 a2).f0, (rd_T36 t203 a2).f1, (rd_T36 t203 a2).f2⟩ : S36)])).bind fun t262 => (some (t262 == 13)))) else (none))) else (none)) else (none)) else (none))) else (none))) else (none)) = some r := by first | (rw [hy241]; with_reducible exact H) | (have H2_ := (Option.bind_some _ _).symm.trans H; rw [hy241]; with_reducible exact H2_) | (have H2_ := (Option.bind_some _ _).symm.trans H; with_reducible exact H2_) | with_reducible exact H | (rw [hy241]; exact H) | exact H
              have Ny241 := Aside0.mk hy241
              clear hy241
              by_cases c64 : y238.length + y241.length < 5864062014805
              ·rw [if_pos c64] at H
               have LMc64 := Aside0.mk c64
               clear c64
               obtain ⟨y246, hy246⟩ : ∃ y_ : List (S36), y_ = (y238 ++ y241) := ⟨_, rfl⟩
               replace H : ((some (([] : List (S36)) : List (S36))).bind fun y250 => (if y250.length + t203.length < 5864062014805 then ((some (y250 ++ t203 : List (S36))).bind fun y253 => (if a2 < (t203.length : Int) then (if y253.length < 5864062014805 then (if t199 = true then ((valid_Graph.f kj53 t200 y246).bind fun t261 => (if t261 = 13 then (if (t203.length : Int) ≥ 24 then (some true) else ((valid_Graph.f kj53 t200 (y253 ++ [(⟨(rd_T36 t203 a2).f0, (rd_T36 t203 a2).f1, (rd_T36 t203 a2).f2⟩ : S36)])).bind fun t262 => (some (t262 == 13)))) else (none))) else (none)) else (none)) else (none))) else (none))) = some r := by first | (rw [hy246]; with_reducible exact H) | (have H2_ := (Option.bind_some _ _).symm.trans H; rw [hy246]; with_reducible exact H2_) | (have H2_ := (Option.bind_some _ _).symm.trans H; with_reducible exact H2_) | with_reducible exact H | (rw [hy246]; exact H) | exact H
               have Ny246 := Aside0.mk hy246
               clear hy246
               obtain ⟨y250, hy250⟩ : ∃ y_ : List (S36), y_ = (([] : List (S36))) := ⟨_, rfl⟩
               replace H : (if y250.length + t203.length < 5864062014805 then ((some (y250 ++ t203 : List (S36))).bind fun y253 => (if a2 < (t203.length : Int) then (if y253.length < 5864062014805 then (if t199 = true then ((valid_Graph.f kj53 t200 y246).bind fun t261 => (if t261 = 13 then (if (t203.length : Int) ≥ 24 then (some true) else ((valid_Graph.f kj53 t200 (y253 ++ [(⟨(rd_T36 t203 a2).f0, (rd_T36 t203 a2).f1, (rd_T36 t203 a2).f2⟩ : S36)])).bind fun t262 => (some (t262 == 13)))) else (none))) else (none)) else (none)) else (none))) else (none)) = some r := by first | (rw [hy250]; with_reducible exact H) | (have H2_ := (Option.bind_some _ _).symm.trans H; rw [hy250]; with_reducible exact H2_) | (have H2_ := (Option.bind_some _ _).symm.trans H; with_reducible exact H2_) | with_reducible exact H | (rw [hy250]; exact H) | exact H
               have Ny250 := Aside0.mk hy250
               clear hy250
               by_cases c65 : y250.length + t203.length < 5864062014805
               ·rw [if_pos c65] at H
                have LMc65 := Aside0.mk c65
                clear c65
                obtain ⟨y253, hy253⟩ : ∃ y_ : List (S36), y_ = (y250 ++ t203) := ⟨_, rfl⟩
                replace H : (if a2 < (t203.length : Int) then (if y253.length < 5864062014805 then (if t199 = true then ((valid_Graph.f kj53 t200 y246).bind fun t261 => (if t261 = 13 then (if (t203.length : Int) ≥ 24 then (some true) else ((valid_Graph.f kj53 t200 (y253 ++ [(⟨(rd_T36 t203 a2).f0, (rd_T36 t203 a2).f1, (rd_T36 t203 a2).f2⟩ : S36)])).bind fun t262 => (some (t262 == 13)))) else (none))) else (none)) else (none)) else (none)) = some r := by first | (rw [hy253]; with_reducible exact H) | (have H2_ := (Option.bind_some _ _).symm.trans H; rw [hy253]; with_reducible exact H2_) | (have H2_ := (Option.bind_some _ _).symm.trans H; with_reducible exact H2_) | with_reducible exact H | (rw [hy253]; exact H) | exact H
                have Ny253 := Aside0.mk hy253
                clear hy253
                by_cases c66 : a2 < (t203.length : Int)
                ·rw [if_pos c66] at H
                 have c66b0 : decide (a2 < (t203.length : Int)) = true := decide_eq_true c66
                 clear c66
                 by_cases c67 : y253.length < 5864062014805
                 ·rw [if_pos c67] at H
                  have LMc67 := Aside0.mk c67
                  clear c67
                  obtain ⟨y257, hy257⟩ : ∃ y_ : List (S36), y_ = (y253 ++ [(⟨(rd_T36 t203 a2).f0, (rd_T36 t203 a2).f1, (rd_T36 t203 a2).f2⟩ : S36)]) := ⟨_, rfl⟩
                  replace H : (if t199 = true then ((valid_Graph.f kj53 t200 y246).bind fun t261 => (if t261 = 13 then (if (t203.length : Int) ≥ 24 then (some true) else ((valid_Graph.f kj53 t200 y257).bind fun t262 => (some (t262 == 13)))) else (none))) else (none)) = some r := by first | (rw [hy257]; with_reducible exact H) | (have H2_ := (Option.bind_some _ _).symm.trans H; rw [hy257]; with_reducible exact H2_) | (have H2_ := (Option.bind_some _ _).symm.trans H; with_reducible exact H2_) | with_reducible exact H | (rw [hy257]; exact H) | exact H
                  have Ny257 := Aside0.mk hy257
                  clear hy257
                  by_cases c68 : t199 = true
                  ·subst c68
                   have H1 : ((valid_Graph.f kj53 t200 y246).bind fun t261 => (if t261 = 13 then (if (t203.length : Int) ≥ 24 then (some true) else ((valid_Graph.f kj53 t200 y257).bind fun t262 => (some (t262 == 13)))) else (none))) = some r := by rw [if_pos rfl] at H; exact H
                   clear H
                   have H := H1
                   clear H1
                   replace H := Option.bind_eq_some_iff.mp H
                   obtain ⟨t261, A690, H⟩ := H
                   replace H : (if t261 = 13 then (if (t203.length : Int) ≥ 24 then (some true) else ((valid_Graph.f kj53 t200 y257).bind fun t262 => (some (t262 == 13)))) else (none)) = some r := H
                   have A69 := Aside0.mk A690
                   clear A690
                   by_cases c70 : t261 = 13
                   ·rw [if_pos c70] at H
                    have c70b0 : (t261 == 13) = true := beq_iff_eq.mpr c70
                    have c70b1 : (t261 != 13) = false := bne_eq_false_iff_eq.mpr c70
                    clear c70
                    by_cases c71 : (t203.length : Int) ≥ 24
                    ·rw [if_pos c71] at H
                     have c71b0 : decide (24 ≤ (t203.length : Int)) = true := decide_eq_true c71
                     have c71b1 : decide (24 ≤ t203.length) = true := decide_eq_true (by omega)
                     clear c71
                     obtain rfl := Option.some.inj H
                     have hcz72_0 : wc.cell? ⟨gb198, 0, none⟩ = some (.slice Ao13 t200.length co13) := (blk_cell BK198.out 0).trans rfl
                     have hcz72_1 : wc.cell? ⟨gb198, 1, none⟩ = some (.slice Ao15 t203.length co15) := (blk_cell BK198.out 1).trans rfl
                     have hfz72_0 := blk_frozen BK198.out 0
                     have hfz72_1 := blk_frozen BK198.out 1
                     go_upto_region 11 with (fail)
                     have p0_ : (0 : Int) ≤ a2 := of_decide_eq_true c58b1
                     have q0_ : a2 ≤ (t203.length : Int) := of_decide_eq_true c59b1
                     have p1_ : (0 : Int) ≤ ji61 := of_decide_eq_true c62b1
                     have q1_ : ji61 ≤ (t203.length : Int) := of_decide_eq_true c63b1
                     have q2_ : a2 < (t203.length : Int) := of_decide_eq_true c66b0
                     obtain ⟨i0_, hi0_, _, hsz_, _⟩ := info_parts info36
                     have hroom_ := (Kd.V_reads' HO_199001.out).2.1
                     have hC_ := (Kd.V_reads' HO_199001.out).2.2
                     have hcutA := cut_to (P := Try.prog) 27 36 .i64 Try.underlying27 hi0_ Ao15 t203.length co15 a2 p0_ q0_ hroom_
                     have hrA := Kd.C_take (m := (a2 : Int).toNat) hC_ (by omega)
                     have hyA : y233.length = (a2 : Int).toNat := by rw [Ny233.out, List.length_take]; omega
                     rw [← Ny233.out] at hrA
                     rw [← hyA] at hcutA
                     have hcutB := cut_from (P := Try.prog) 27 36 .i64 Try.underlying27 hi0_ 3 hsz_ Ao15 t203.length co15 ji61 p1_ q1_
                     have hrB := Kd.C_drop (m := (ji61 : Int).toNat) (c := co15) hC_ (by omega) hroom_
                     obtain ⟨B2, hB2⟩ : ∃ A1, A1 = (if co15 = (ji61 : Int).toNat then Ao15 else (Ao15 : Option Addr).map (·.add ((ji61 : Int).toNat * 3))) := ⟨_, rfl⟩
                     obtain ⟨d2, hd2⟩ : ∃ c1, c1 = co15 - (ji61 : Int).toNat := ⟨_, rfl⟩
                     have hyB : y241.length = t203.length - (ji61 : Int).toNat := by rw [Ny241.out, List.length_drop]
                     rw [show t203.drop (ji61 : Int).toNat = y241 from Ny241.out.symm] at hrB
                     replace hrB : k36.C wc B2 y241.length y241 := by rw [hB2]; exact hrB
                     rw [← hyB, ← hB2, ← hd2] at hcutB
                     have rA_ := Aside0.mk hrA
                     have rB_ := Aside0.mk hrB
                     have p0a_ := Aside0.mk p0_
                     have q2a_ := Aside0.mk q2_
                     clear hC_ hroom_ hi0_ hsz_ hyA hyB hd2 hB2 p1_ q0_ q1_ p0_ q2_ hrA hrB
                     have hs0_ : wc.drew.cell? ⟨gb198, 0, none⟩ = some (.slice Ao13 t200.length co13) := (blk_cell BK198.out 0).trans rfl
                     have hs1_ : wc.drew.cell? ⟨gb198, 1, none⟩ = some (.slice Ao15 t203.length co15) := (blk_cell BK198.out 1).trans rfl
                     refine start_ (n := 17) (S := fun w' => w'.cell? ⟨gb198, 0, none⟩ = some (.slice Ao13 t200.length co13) ∧ w'.cell? ⟨gb198, 1, none⟩ = some (.slice Ao15 t203.length co15)) (ds := [16]) #[false, false, false, false, false, false, false, false, false, false, false, false, false, false, false, false, false] (by kernel_rfl) rfl rfl ⟨hs0_, hs1_⟩ (fun hHeld => ?_)
                     clear hs0_ hs1_
                     refine Hand.pv_ #[true, false, false, false, false, false, false, false, false, false, false, false, false, false, false, false, false] 0 89 ?_
                     refine Hand.tv_ #[true, true, false, false, false, false, false, false, false, false, false, false, false, false, false, false, false] hHeld 1 90 ?_
                     refine Hand.pv_ #[true, true, false, true, false, false, false, false, false, false, false, false, false, false, false, false, false] 3 92 ?_
                     refine Hand.tv_ #[true, true, false, true, true, false, false, false, false, false, false, false, false, false, false, false, false] hHeld 4 93 ?_
                     refine Hand.pv_ #[true, true, false, true, true, true, false, false, false, false, false, false, false, false, false, false, false] 5 94 ?_
                     refine Hand.pv_ #[true, true, false, true, true, true, true, false, false, false, false, false, false, false, false, false, false] 6 95 ?_
                     refine Hand.pv_ #[true, true, false, true, true, true, true, false, true, false, false, false, false, false, false, false, false] 8 97 ?_
                     refine Hand.tv_ #[true, true, false, true, true, true, true, false, true, true, false, false, false, false, false, false, false] hHeld 9 98 ?_
                     refine Hand.pv_ #[true, true, false, true, true, true, true, false, true, true, true, false, false, false, false, false, false] 10 99 ?_
                     refine Hand.pv_ (v := .int .i64 ji61) #[true, true, false, true, true, true, true, false, true, true, true, true, false, false, false, false, false] 11 100 ?_ (hy := ?_)
                     rotate_left
                     · refine Or.inl ⟨by rfl, ?_⟩; intro w'; first | (go_simp; done) | (go_simp; rfl) | (go_simp; exact hji61w) | (go_simp; exact hji61)
                     refine Hand.pv_ #[true, true, false, true, true, true, true, false, true, true, true, true, true, false, false, false, false] 12 101 ?_
                     refine Hand.reg11 Ao13 co13 t200.length y233 y241 (B1 := Ao15) (B2 := B2) (d1 := co15) (d2 := d2) (by decide) rfl rfl rfl rfl (Kd.C_drew rA_.out) (Kd.C_drew rB_.out) (by have := LMc64.out; rw [Ny238.out, Ny230.out, List.nil_append] at this; exact this) (fun w1 hb_ => ⟨(hb_.cell (World.block_lt_of_cell? _ _ hHeld.1)).trans hHeld.1, (hb_.cell (World.block_lt_of_cell? _ _ hHeld.2)).trans hHeld.2⟩) (fun vs b9 w9 e15 e14 hR13 hbk9 hge hb_ a' ea => ?_)
                     clear hHeld hcutA hcutB rA_ rB_
                     rw [show y233 ++ y241 = y246 from by rw [Ny246.out, Ny238.out, Ny230.out]; rfl] at hR13
                     obtain ⟨A13_, k13_, ev13⟩ := Kd.R_slice hR13
                     rw [ev13] at e14 hbk9 hR13
                     replace ea : a' = Act.put (Act.put (Act.put (Act.put (Act.put _ (some 91) (vs 2)) (some 96) (vs 7)) (some 102) (vs 13)) (some 103) (vs 14)) (some 9) (vs 15) := ea
                     simp only [Act.put, List.setIfInBounds_toArray, List.set_cons_zero, List.set_cons_succ, e15, e14, ev13] at ea
                     subst ea
                     clear e15 e14 ev13
                     have n0_ := Aside0.mk (Kd.V_below (Kd.V_drew HO_199000.out) hb_)
                     have n1_ := Aside0.mk (Kd.V_below (Kd.V_drew HO_199001.out) hb_)
                     have n2_ := Aside0.mk (blk_below (blk_drew BK198.out) hb_)
                     have n3_ := Aside0.mk (below_step (below_drew1 HB.out) hb_)
                     clear HO_199000 HO_199001 BK198 HB
                     have HO_199000 := n0_
                     have HO_199001 := n1_
                     have BK198 := n2_
                     have HB := n3_
                     clear n0_ n1_ n2_ n3_
                     have rR13_ := Aside0.mk hR13
                     clear hR13
                     have BK9 := Aside0.mk hbk9
                     clear hge hb_ hbk9
                     go_upto_region 12 with (fail)
                     obtain ⟨ad_, ead_, hx0_, hx1_, hx2_⟩ := at_T36 (Kd.V_reads' HO_199001.out).2.2 a2 p0a_.out q2a_.out
                     cases ead_
                     have hq2_ := eq_true q2a_.out
                     have hs0_ : w9.drew.cell? ⟨gb198, 0, none⟩ = some (.slice Ao13 t200.length co13) := (blk_cell BK198.out 0).trans rfl
                     have hs1_ : w9.drew.cell? ⟨gb198, 1, none⟩ = some (.slice (some ad_) t203.length co15) := (blk_cell BK198.out 1).trans rfl
                     have hx0_ : w9.drew.cell? (ad_.add ((a2).toNat * 3)) = some (.int .i64 ((rd_T36 t203 a2).f0)) := hx0_
                     have hx1_ : w9.drew.cell? ⟨(ad_.add ((a2).toNat * 3)).block, (ad_.add ((a2).toNat * 3)).off + 1, none⟩ = some (.int .i64 ((rd_T36 t203 a2).f1)) := hx1_
                     have hx2_ : w9.drew.cell? ⟨(ad_.add ((a2).toNat * 3)).block, (ad_.add ((a2).toNat * 3)).off + 2, none⟩ = some (.int .i64 ((rd_T36 t203 a2).f2)) := hx2_
                     refine start_ (n := 16) (S := fun w' => w'.cell? ⟨gb198, 0, none⟩ = some (.slice Ao13 t200.length co13) ∧ w'.cell? ⟨gb198, 1, none⟩ = some (.slice (some ad_) t203.length co15) ∧ w'.cell? (ad_.add ((a2).toNat * 3)) = some (.int .i64 ((rd_T36 t203 a2).f0)) ∧ w'.cell? ⟨(ad_.add ((a2).toNat * 3)).block, (ad_.add ((a2).toNat * 3)).off + 1, none⟩ = some (.int .i64 ((rd_T36 t203 a2).f1)) ∧ w'.cell? ⟨(ad_.add ((a2).toNat * 3)).block, (ad_.add ((a2).toNat * 3)).off + 2, none⟩ = some (.int .i64 ((rd_T36 t203 a2).f2))) (ds := [15]) #[false, false, false, false, false, false, false, false, false, false, false, false, false, false, false, false] (by kernel_rfl) rfl rfl ⟨hs0_, hs1_, hx0_, hx1_, hx2_⟩ (fun hHeld => ?_)
                     clear hs0_ hs1_ hx0_ hx1_ hx2_
                     refine Hand.pv_ #[true, false, false, false, false, false, false, false, false, false, false, false, false, false, false, false] 0 104 ?_
                     refine Hand.tv_ #[true, true, false, false, false, false, false, false, false, false, false, false, false, false, false, false] hHeld 1 105 ?_
                     refine Hand.pv_ #[true, true, false, true, false, false, false, false, false, false, false, false, false, false, false, false] 3 107 ?_
                     refine Hand.tv_ #[true, true, false, true, true, false, false, false, false, false, false, false, false, false, false, false] hHeld 4 108 ?_
                     refine Hand.pv_ #[true, true, false, true, true, false, true, false, false, false, false, false, false, false, false, false] 6 110 ?_
                     refine Hand.tv_ #[true, true, false, true, true, false, true, true, false, false, false, false, false, false, false, false] hHeld 7 111 ?_
                     refine Hand.pv_ #[true, true, false, true, true, false, true, true, true, false, false, false, false, false, false, false] 8 112 ?_
                     refine Hand.pv_ #[true, true, false, true, true, false, true, true, true, true, false, false, false, false, false, false] 9 113 ?_
                     refine Hand.tv_ #[true, true, false, true, true, false, true, true, true, true, true, false, false, false, false, false] hHeld 10 114 ?_
                     refine Hand.reg12 Ao13 co13 t200.length t203 (⟨(rd_T36 t203 a2).f0, (rd_T36 t203 a2).f1, (rd_T36 t203 a2).f2⟩ : S36) (B1 := some ad_) (d1 := co15) (by decide) rfl rfl rfl rfl (Kd.C_drew (Kd.V_reads' HO_199001.out).2.2) (by have := LMc65.out; omega) (fun w1 hb_ => ⟨(hb_.cell (World.block_lt_of_cell? _ _ hHeld.1)).trans hHeld.1, (hb_.cell (World.block_lt_of_cell? _ _ hHeld.2.1)).trans hHeld.2.1, (hb_.cell (World.block_lt_of_cell? _ _ hHeld.2.2.1)).trans hHeld.2.2.1, (hb_.cell (World.block_lt_of_cell? _ _ hHeld.2.2.2.1)).trans hHeld.2.2.2.1, (hb_.cell (World.block_lt_of_cell? _ _ hHeld.2.2.2.2)).trans hHeld.2.2.2.2⟩) (fun vs b10 w10 e14 e13 hR12 hbk10 hge hb_ a' ea => ?_)
                     clear hHeld
                     rw [show t203 ++ [(⟨(rd_T36 t203 a2).f0, (rd_T36 t203 a2).f1, (rd_T36 t203 a2).f2⟩ : S36)] = y257 from by rw [Ny257.out, Ny253.out, Ny250.out]; rfl] at hR12
                     obtain ⟨A12_, k12_, ev12⟩ := Kd.R_slice hR12
                     rw [ev12] at e13 hbk10 hR12
                     replace ea : a' = Act.put (Act.put (Act.put (Act.put (Act.put (Act.put _ (some 106) (vs 2)) (some 109) (vs 5)) (some 115) (vs 11)) (some 116) (vs 12)) (some 117) (vs 13)) (some 10) (vs 14) := ea
                     simp only [Act.put, List.setIfInBounds_toArray, List.set_cons_zero, List.set_cons_succ, e14, e13, ev12] at ea
                     subst ea
                     clear e14 e13 ev12
                     have m0_ := Aside0.mk (Kd.R_below (Kd.R_drew rR13_.out) hb_)
                     have m1_ := Aside0.mk (blk_below (blk_drew BK9.out) hb_)
                     clear rR13_ BK9
                     have rR13_ := m0_
                     have BK9 := m1_
                     clear m0_ m1_
                     have n0_ := Aside0.mk (Kd.V_below (Kd.V_drew HO_199000.out) hb_)
                     have n1_ := Aside0.mk (Kd.V_below (Kd.V_drew HO_199001.out) hb_)
                     have n2_ := Aside0.mk (blk_below (blk_drew BK198.out) hb_)
                     have n3_ := Aside0.mk (below_step (below_drew1 HB.out) hb_)
                     clear HO_199000 HO_199001 BK198 HB
                     have HO_199000 := n0_
                     have HO_199001 := n1_
                     have BK198 := n2_
                     have HB := n3_
                     clear n0_ n1_ n2_ n3_
                     have rR12_ := Aside0.mk hR12
                     clear hR12
                     have BK10 := Aside0.mk hbk10
                     clear hge hb_ hbk10
                     have hcb90_ : w10.cell? ⟨b9, 0, none⟩ = some (.slice Ao13 t200.length co13) := (blk_cell BK9.out 0).trans rfl
                     have hcb91_ : w10.cell? ⟨b9, 1, none⟩ = some (.slice A13_ y246.length k13_) := (blk_cell BK9.out 1).trans rfl
                     go_wp2_with (first | (go_at_call 13; (with_reducible refine (valid_Graph.calls kj53 _ _ t200 _ _ y246 t261 _ ?s1 ?s2 ?s3 ?s4 A69.out).mono ?_); (case s1 => exact (Kd.V_reads' HO_199000.out).2.2); (case s2 => exact (Kd.V_reads' HO_199000.out).2.1); (case s3 => exact (Kd.R_reads' rR13_.out).2.2); (case s4 => exact (Kd.R_reads' rR13_.out).2.1); rintro e w_ ⟨rfl, hb_⟩; have m0_ := Aside0.mk (Kd.R_below rR12_.out hb_); have m1_ := Aside0.mk (blk_below BK10.out hb_); clear rR12_ BK10; have rR12_ := m0_; have BK10 := m1_; clear m0_ m1_; have n0_ := Aside0.mk (Kd.V_below HO_199000.out hb_); have n1_ := Aside0.mk (Kd.V_below HO_199001.out hb_); have n2_ := Aside0.mk (blk_below BK198.out hb_); have n3_ := Aside0.mk (below_step HB.out hb_); clear HO_199000 HO_199001 BK198 HB; have HO_199000 := n0_; have HO_199001 := n1_; have BK198 := n2_; have HB := n3_; clear n0_ n1_ n2_ n3_; clear hb_; clear hcb90_ hcb91_; have hcgb1980_ : w_.cell? ⟨gb198, 0, none⟩ = some (.slice Ao13 t200.length co13) := (blk_cell BK198.out 0).trans rfl; have hcgb1981_ : w_.cell? ⟨gb198, 1, none⟩ = some (.slice (some ad_) t203.length co15) := (blk_cell BK198.out 1).trans rfl))
                     go_ret
                     exact ⟨by first | rfl | (simp [errW_none, errW_some] <;> rfl) | (simp only [← hji61]; first | rfl | (simp [errW_none, errW_some] <;> rfl)) | (simp [*, errW_none, errW_some] <;> rfl), by repeat (first | (with_reducible first | exact HB.out | apply below_alloc | apply pw_below_drewN | apply below_drew1 | refine below_set ?_ GE198.out | refine below_set ?_ GE249.out | refine below_set ?_ GE260.out) | exact HB.out)⟩
                    ·rw [if_neg c71] at H
                     have c71b0 : decide (24 ≤ (t203.length : Int)) = false := decide_eq_false c71
                     have c71b1 : decide (24 ≤ t203.length) = false := decide_eq_false (by omega)
                     clear c71
                     replace H := Option.bind_eq_some_iff.mp H
                     obtain ⟨t262, A1000, H⟩ := H
                     replace H : (some (t262 == 13)) = some r := H
                     have A100 := Aside0.mk A1000
                     clear A1000
                     obtain rfl := Option.some.inj H
                     have hcz101_0 : wc.cell? ⟨gb198, 0, none⟩ = some (.slice Ao13 t200.length co13) := (blk_cell BK198.out 0).trans rfl
                     have hcz101_1 : wc.cell? ⟨gb198, 1, none⟩ = some (.slice Ao15 t203.length co15) := (blk_cell BK198.out 1).trans rfl
                     have hfz101_0 := blk_frozen BK198.out 0
                     have hfz101_1 := blk_frozen BK198.out 1
                     go_upto_region 11 with (fail)
                     have p0_ : (0 : Int) ≤ a2 := of_decide_eq_true c58b1
                     have q0_ : a2 ≤ (t203.length : Int) := of_decide_eq_true c59b1
                     have p1_ : (0 : Int) ≤ ji61 := of_decide_eq_true c62b1
                     have q1_ : ji61 ≤ (t203.length : Int) := of_decide_eq_true c63b1
                     have q2_ : a2 < (t203.length : Int) := of_decide_eq_true c66b0
                     obtain ⟨i0_, hi0_, _, hsz_, _⟩ := info_parts info36
                     have hroom_ := (Kd.V_reads' HO_199001.out).2.1
                     have hC_ := (Kd.V_reads' HO_199001.out).2.2
                     have hcutA := cut_to (P := Try.prog) 27 36 .i64 Try.underlying27 hi0_ Ao15 t203.length co15 a2 p0_ q0_ hroom_
                     have hrA := Kd.C_take (m := (a2 : Int).toNat) hC_ (by omega)
                     have hyA : y233.length = (a2 : Int).toNat := by rw [Ny233.out, List.length_take]; omega
                     rw [← Ny233.out] at hrA
                     rw [← hyA] at hcutA
                     have hcutB := cut_from (P := Try.prog) 27 36 .i64 Try.underlying27 hi0_ 3 hsz_ Ao15 t203.length co15 ji61 p1_ q1_
                     have hrB := Kd.C_drop (m := (ji61 : Int).toNat) (c := co15) hC_ (by omega) hroom_
                     obtain ⟨B2, hB2⟩ : ∃ A1, A1 = (if co15 = (ji61 : Int).toNat then Ao15 else (Ao15 : Option Addr).map (·.add ((ji61 : Int).toNat * 3))) := ⟨_, rfl⟩
                     obtain ⟨d2, hd2⟩ : ∃ c1, c1 = co15 - (ji61 : Int).toNat := ⟨_, rfl⟩
                     have hyB : y241.length = t203.length - (ji61 : Int).toNat := by rw [Ny241.out, List.length_drop]
                     rw [show t203.drop (ji61 : Int).toNat = y241 from Ny241.out.symm] at hrB
                     replace hrB : k36.C wc B2 y241.length y241 := by rw [hB2]; exact hrB
                     rw [← hyB, ← hB2, ← hd2] at hcutB
                     have rA_ := Aside0.mk hrA
                     have rB_ := Aside0.mk hrB
                     have p0a_ := Aside0.mk p0_
                     have q2a_ := Aside0.mk q2_
                     clear hC_ hroom_ hi0_ hsz_ hyA hyB hd2 hB2 p1_ q0_ q1_ p0_ q2_ hrA hrB
                     have hs0_ : wc.drew.cell? ⟨gb198, 0, none⟩ = some (.slice Ao13 t200.length co13) := (blk_cell BK198.out 0).trans rfl
                     have hs1_ : wc.drew.cell? ⟨gb198, 1, none⟩ = some (.slice Ao15 t203.length co15) := (blk_cell BK198.out 1).trans rfl
                     refine start_ (n := 17) (S := fun w' => w'.cell? ⟨gb198, 0, none⟩ = some (.slice Ao13 t200.length co13) ∧ w'.cell? ⟨gb198, 1, none⟩ = some (.slice Ao15 t203.length co15)) (ds := [16]) #[false, false, false, false, false, false, false, false, false, false, false, false, false, false, false, false, false] (by kernel_rfl) rfl rfl ⟨hs0_, hs1_⟩ (fun hHeld => ?_)
                     clear hs0_ hs1_
                     refine Hand.pv_ #[true, false, false, false, false, false, false, false, false, false, false, false, false, false, false, false, false] 0 89 ?_
                     refine Hand.tv_ #[true, true, false, false, false, false, false, false, false, false, false, false, false, false, false, false, false] hHeld 1 90 ?_
                     refine Hand.pv_ #[true, true, false, true, false, false, false, false, false, false, false, false, false, false, false, false, false] 3 92 ?_
                     refine Hand.tv_ #[true, true, false, true, true, false, false, false, false, false, false, false, false, false, false, false, false] hHeld 4 93 ?_
                     refine Hand.pv_ #[true, true, false, true, true, true, false, false, false, false, false, false, false, false, false, false, false] 5 94 ?_
                     refine Hand.pv_ #[true, true, false, true, true, true, true, false, false, false, false, false, false, false, false, false, false] 6 95 ?_
                     refine Hand.pv_ #[true, true, false, true, true, true, true, false, true, false, false, false, false, false, false, false, false] 8 97 ?_
                     refine Hand.tv_ #[true, true, false, true, true, true, true, false, true, true, false, false, false, false, false, false, false] hHeld 9 98 ?_
                     refine Hand.pv_ #[true, true, false, true, true, true, true, false, true, true, true, false, false, false, false, false, false] 10 99 ?_
                     refine Hand.pv_ (v := .int .i64 ji61) #[true, true, false, true, true, true, true, false, true, true, true, true, false, false, false, false, false] 11 100 ?_ (hy := ?_)
                     rotate_left
                     · refine Or.inl ⟨by rfl, ?_⟩; intro w'; first | (go_simp; done) | (go_simp; rfl) | (go_simp; exact hji61w) | (go_simp; exact hji61)
                     refine Hand.pv_ #[true, true, false, true, true, true, true, false, true, true, true, true, true, false, false, false, false] 12 101 ?_
                     refine Hand.reg11 Ao13 co13 t200.length y233 y241 (B1 := Ao15) (B2 := B2) (d1 := co15) (d2 := d2) (by decide) rfl rfl rfl rfl (Kd.C_drew rA_.out) (Kd.C_drew rB_.out) (by have := LMc64.out; rw [Ny238.out, Ny230.out, List.nil_append] at this; exact this) (fun w1 hb_ => ⟨(hb_.cell (World.block_lt_of_cell? _ _ hHeld.1)).trans hHeld.1, (hb_.cell (World.block_lt_of_cell? _ _ hHeld.2)).trans hHeld.2⟩) (fun vs b9 w9 e15 e14 hR13 hbk9 hge hb_ a' ea => ?_)
                     clear hHeld hcutA hcutB rA_ rB_
                     rw [show y233 ++ y241 = y246 from by rw [Ny246.out, Ny238.out, Ny230.out]; rfl] at hR13
                     obtain ⟨A13_, k13_, ev13⟩ := Kd.R_slice hR13
                     rw [ev13] at e14 hbk9 hR13
                     replace ea : a' = Act.put (Act.put (Act.put (Act.put (Act.put _ (some 91) (vs 2)) (some 96) (vs 7)) (some 102) (vs 13)) (some 103) (vs 14)) (some 9) (vs 15) := ea
                     simp only [Act.put, List.setIfInBounds_toArray, List.set_cons_zero, List.set_cons_succ, e15, e14, ev13] at ea
                     subst ea
                     clear e15 e14 ev13
                     have n0_ := Aside0.mk (Kd.V_below (Kd.V_drew HO_199000.out) hb_)
                     have n1_ := Aside0.mk (Kd.V_below (Kd.V_drew HO_199001.out) hb_)
                     have n2_ := Aside0.mk (blk_below (blk_drew BK198.out) hb_)
                     have n3_ := Aside0.mk (below_step (below_drew1 HB.out) hb_)
                     clear HO_199000 HO_199001 BK198 HB
                     have HO_199000 := n0_
                     have HO_199001 := n1_
                     have BK198 := n2_
                     have HB := n3_
                     clear n0_ n1_ n2_ n3_
                     have rR13_ := Aside0.mk hR13
                     clear hR13
                     have BK9 := Aside0.mk hbk9
                     clear hge hb_ hbk9
                     go_upto_region 12 with (fail)
                     obtain ⟨ad_, ead_, hx0_, hx1_, hx2_⟩ := at_T36 (Kd.V_reads' HO_199001.out).2.2 a2 p0a_.out q2a_.out
                     cases ead_
                     have hq2_ := eq_true q2a_.out
                     have hs0_ : w9.drew.cell? ⟨gb198, 0, none⟩ = some (.slice Ao13 t200.length co13) := (blk_cell BK198.out 0).trans rfl
                     have hs1_ : w9.drew.cell? ⟨gb198, 1, none⟩ = some (.slice (some ad_) t203.length co15) := (blk_cell BK198.out 1).trans rfl
                     have hx0_ : w9.drew.cell? (ad_.add ((a2).toNat * 3)) = some (.int .i64 ((rd_T36 t203 a2).f0)) := hx0_
                     have hx1_ : w9.drew.cell? ⟨(ad_.add ((a2).toNat * 3)).block, (ad_.add ((a2).toNat * 3)).off + 1, none⟩ = some (.int .i64 ((rd_T36 t203 a2).f1)) := hx1_
                     have hx2_ : w9.drew.cell? ⟨(ad_.add ((a2).toNat * 3)).block, (ad_.add ((a2).toNat * 3)).off + 2, none⟩ = some (.int .i64 ((rd_T36 t203 a2).f2)) := hx2_
                     refine start_ (n := 16) (S := fun w' => w'.cell? ⟨gb198, 0, none⟩ = some (.slice Ao13 t200.length co13) ∧ w'.cell? ⟨gb198, 1, none⟩ = some (.slice (some ad_) t203.length co15) ∧ w'.cell? (ad_.add ((a2).toNat * 3)) = some (.int .i64 ((rd_T36 t203 a2).f0)) ∧ w'.cell? ⟨(ad_.add ((a2).toNat * 3)).block, (ad_.add ((a2).toNat * 3)).off + 1, none⟩ = some (.int .i64 ((rd_T36 t203 a2).f1)) ∧ w'.cell? ⟨(ad_.add ((a2).toNat * 3)).block, (ad_.add ((a2).toNat * 3)).off + 2, none⟩ = some (.int .i64 ((rd_T36 t203 a2).f2))) (ds := [15]) #[false, false, false, false, false, false, false, false, false, false, false, false, false, false, false, false] (by kernel_rfl) rfl rfl ⟨hs0_, hs1_, hx0_, hx1_, hx2_⟩ (fun hHeld => ?_)
                     clear hs0_ hs1_ hx0_ hx1_ hx2_
                     refine Hand.pv_ #[true, false, false, false, false, false, false, false, false, false, false, false, false, false, false, false] 0 104 ?_
                     refine Hand.tv_ #[true, true, false, false, false, false, false, false, false, false, false, false, false, false, false, false] hHeld 1 105 ?_
                     refine Hand.pv_ #[true, true, false, true, false, false, false, false, false, false, false, false, false, false, false, false] 3 107 ?_
                     refine Hand.tv_ #[true, true, false, true, true, false, false, false, false, false, false, false, false, false, false, false] hHeld 4 108 ?_
                     refine Hand.pv_ #[true, true, false, true, true, false, true, false, false, false, false, false, false, false, false, false] 6 110 ?_
                     refine Hand.tv_ #[true, true, false, true, true, false, true, true, false, false, false, false, false, false, false, false] hHeld 7 111 ?_
                     refine Hand.pv_ #[true, true, false, true, true, false, true, true, true, false, false, false, false, false, false, false] 8 112 ?_
                     refine Hand.pv_ #[true, true, false, true, true, false, true, true, true, true, false, false, false, false, false, false] 9 113 ?_
                     refine Hand.tv_ #[true, true, false, true, true, false, true, true, true, true, true, false, false, false, false, false] hHeld 10 114 ?_
                     refine Hand.reg12 Ao13 co13 t200.length t203 (⟨(rd_T36 t203 a2).f0, (rd_T36 t203 a2).f1, (rd_T36 t203 a2).f2⟩ : S36) (B1 := some ad_) (d1 := co15) (by decide) rfl rfl rfl rfl (Kd.C_drew (Kd.V_reads' HO_199001.out).2.2) (by have := LMc65.out; omega) (fun w1 hb_ => ⟨(hb_.cell (World.block_lt_of_cell? _ _ hHeld.1)).trans hHeld.1, (hb_.cell (World.block_lt_of_cell? _ _ hHeld.2.1)).trans hHeld.2.1, (hb_.cell (World.block_lt_of_cell? _ _ hHeld.2.2.1)).trans hHeld.2.2.1, (hb_.cell (World.block_lt_of_cell? _ _ hHeld.2.2.2.1)).trans hHeld.2.2.2.1, (hb_.cell (World.block_lt_of_cell? _ _ hHeld.2.2.2.2)).trans hHeld.2.2.2.2⟩) (fun vs b10 w10 e14 e13 hR12 hbk10 hge hb_ a' ea => ?_)
                     clear hHeld
                     rw [show t203 ++ [(⟨(rd_T36 t203 a2).f0, (rd_T36 t203 a2).f1, (rd_T36 t203 a2).f2⟩ : S36)] = y257 from by rw [Ny257.out, Ny253.out, Ny250.out]; rfl] at hR12
                     obtain ⟨A12_, k12_, ev12⟩ := Kd.R_slice hR12
                     rw [ev12] at e13 hbk10 hR12
                     replace ea : a' = Act.put (Act.put (Act.put (Act.put (Act.put (Act.put _ (some 106) (vs 2)) (some 109) (vs 5)) (some 115) (vs 11)) (some 116) (vs 12)) (some 117) (vs 13)) (some 10) (vs 14) := ea
                     simp only [Act.put, List.setIfInBounds_toArray, List.set_cons_zero, List.set_cons_succ, e14, e13, ev12] at ea
                     subst ea
                     clear e14 e13 ev12
                     have m0_ := Aside0.mk (Kd.R_below (Kd.R_drew rR13_.out) hb_)
                     have m1_ := Aside0.mk (blk_below (blk_drew BK9.out) hb_)
                     clear rR13_ BK9
                     have rR13_ := m0_
                     have BK9 := m1_
                     clear m0_ m1_
                     have n0_ := Aside0.mk (Kd.V_below (Kd.V_drew HO_199000.out) hb_)
                     have n1_ := Aside0.mk (Kd.V_below (Kd.V_drew HO_199001.out) hb_)
                     have n2_ := Aside0.mk (blk_below (blk_drew BK198.out) hb_)
                     have n3_ := Aside0.mk (below_step (below_drew1 HB.out) hb_)
                     clear HO_199000 HO_199001 BK198 HB
                     have HO_199000 := n0_
                     have HO_199001 := n1_
                     have BK198 := n2_
                     have HB := n3_
                     clear n0_ n1_ n2_ n3_
                     have rR12_ := Aside0.mk hR12
                     clear hR12
                     have BK10 := Aside0.mk hbk10
                     clear hge hb_ hbk10
                     have hcb90_ : w10.cell? ⟨b9, 0, none⟩ = some (.slice Ao13 t200.length co13) := (blk_cell BK9.out 0).trans rfl
                     have hcb91_ : w10.cell? ⟨b9, 1, none⟩ = some (.slice A13_ y246.length k13_) := (blk_cell BK9.out 1).trans rfl
                     go_wp2_with (first | (go_at_call 13; (with_reducible refine (valid_Graph.calls kj53 _ _ t200 _ _ y246 t261 _ ?s1 ?s2 ?s3 ?s4 A69.out).mono ?_); (case s1 => exact (Kd.V_reads' HO_199000.out).2.2); (case s2 => exact (Kd.V_reads' HO_199000.out).2.1); (case s3 => exact (Kd.R_reads' rR13_.out).2.2); (case s4 => exact (Kd.R_reads' rR13_.out).2.1); rintro e w_ ⟨rfl, hb_⟩; have m0_ := Aside0.mk (Kd.R_below rR12_.out hb_); have m1_ := Aside0.mk (blk_below BK10.out hb_); clear rR12_ BK10; have rR12_ := m0_; have BK10 := m1_; clear m0_ m1_; have n0_ := Aside0.mk (Kd.V_below HO_199000.out hb_); have n1_ := Aside0.mk (Kd.V_below HO_199001.out hb_); have n2_ := Aside0.mk (blk_below BK198.out hb_); have n3_ := Aside0.mk (below_step HB.out hb_); clear HO_199000 HO_199001 BK198 HB; have HO_199000 := n0_; have HO_199001 := n1_; have BK198 := n2_; have HB := n3_; clear n0_ n1_ n2_ n3_; clear hb_; clear hcb90_ hcb91_; have hcgb1980_ : w_.cell? ⟨gb198, 0, none⟩ = some (.slice Ao13 t200.length co13) := (blk_cell BK198.out 0).trans rfl; have hcgb1981_ : w_.cell? ⟨gb198, 1, none⟩ = some (.slice (some ad_) t203.length co15) := (blk_cell BK198.out 1).trans rfl; have hcb100_ : w_.cell? ⟨b10, 0, none⟩ = some (.slice Ao13 t200.length co13) := (blk_cell BK10.out 0).trans rfl; have hcb101_ : w_.cell? ⟨b10, 1, none⟩ = some (.slice A12_ y257.length k12_) := (blk_cell BK10.out 1).trans rfl) | (go_at_call 13; (with_reducible refine (valid_Graph.calls kj53 _ _ t200 _ _ y257 t262 _ ?s1 ?s2 ?s3 ?s4 A100.out).mono ?_); (case s1 => exact (Kd.V_reads' HO_199000.out).2.2); (case s2 => exact (Kd.V_reads' HO_199000.out).2.1); (case s3 => exact (Kd.R_reads' rR12_.out).2.2); (case s4 => exact (Kd.R_reads' rR12_.out).2.1); rintro e w_ ⟨rfl, hb_⟩; have n0_ := Aside0.mk (Kd.V_below HO_199000.out hb_); have n1_ := Aside0.mk (Kd.V_below HO_199001.out hb_); have n2_ := Aside0.mk (blk_below BK198.out hb_); have n3_ := Aside0.mk (below_step HB.out hb_); clear HO_199000 HO_199001 BK198 HB; have HO_199000 := n0_; have HO_199001 := n1_; have BK198 := n2_; have HB := n3_; clear n0_ n1_ n2_ n3_; clear hb_))
                     go_ret
                     exact ⟨by first | rfl | (simp [errW_none, errW_some] <;> rfl) | (simp only [← hji61]; first | rfl | (simp [errW_none, errW_some] <;> rfl)) | (simp [*, errW_none, errW_some] <;> rfl), by repeat (first | (with_reducible first | exact HB.out | apply below_alloc | apply pw_below_drewN | apply below_drew1 | refine below_set ?_ GE198.out | refine below_set ?_ GE249.out | refine below_set ?_ GE260.out) | exact HB.out)⟩
                   ·rw [if_neg c70] at H
                    exact absurd H (by simp)
                  ·replace c68 := Bool.eq_false_iff.mpr c68
                   subst c68
                   have H1 : (none) = some r := by rw [if_neg (show ¬ (false = true) by decide)] at H; exact H
                   clear H
                   have H := H1
                   clear H1
                   exact absurd H (by simp)
                 ·rw [if_neg c67] at H
                  exact absurd H (by simp)
                ·rw [if_neg c66] at H
                 exact absurd H (by simp)
               ·rw [if_neg c65] at H
                exact absurd H (by simp)
              ·rw [if_neg c64] at H
               exact absurd H (by simp)
             ·rw [if_neg c63] at H
              exact absurd H (by simp)
            ·rw [if_neg c62] at H
             exact absurd H (by simp)
           ·rw [if_neg c60] at H
            exact absurd H (by simp)
          ·rw [if_neg c59] at H
           exact absurd H (by simp)
         ·rw [if_neg c58] at H
          exact absurd H (by simp)
 ·rw [if_neg c7] at H
  have c7b0 : (t206 == 0) = false := beq_eq_false_iff_ne.mpr c7
  have c7b1 : (t206 != 0) = true := bne_iff_ne.mpr c7
  obtain rfl := Option.some.inj H
  go_enter Try.func5, Try.ntmps5
  go_wp2_with (first | ((with_reducible refine gate_dst (N := 3) rfl ?_); (try (refine gate_guard (by rfl) ?_; dsimp only)); refine box_event ?hg (N := 3) ?hd (cs := #[.slice A0_0 l0_0.length c0_0, .slice A0_1 l0_1.length c0_1]) (t := 29) ?hr ?_; (case hd => rfl); (case hg => rfl); (case hr => first | (go_simp; done) | (go_simp; rfl)); intro gb198 hg w131 hbox hb; have n0_ := Aside0.mk (below_step (by repeat (first | (with_reducible first | exact HB.out | apply below_alloc | apply pw_below_drewN | apply below_drew1) | exact HB.out)) hb); have n1_ := Aside0.mk (hbox); have n2_ := Aside0.mk ((by rw [hg]; exact (below_size (by repeat (first | (with_reducible first | exact HB.out | apply below_alloc | apply pw_below_drewN | apply below_drew1) | exact HB.out))) : w.heap.size ≤ gb198)); have n3_ := Aside0.mk ((by rw [hg]; exact (below_size (by repeat (first | (with_reducible first | exact HB.out | apply below_alloc | apply pw_below_drewN | apply below_drew1) | exact HB.out))) : w.heap.size ≤ gb198)); clear HB; have HB := n0_; have BK198 := n1_; have GW198 := n2_; have GE198 := n3_; clear n0_ n1_ n2_ n3_; clear hb hbox hg) | ((with_reducible refine gate_callee (f := 9) rfl ?_); refine goesL_ (some 11) rfl rfl Try.func9 (by kernel_rfl) rfl #[] rfl (by (try simp only [List.map_toArray, List.map_cons, List.map_nil]); first | done | rfl | (simp only [List.length_drop, List.length_take]; rfl)) ?_; (with_reducible refine (meanderlaw09_shown.calls k  t199 _ A4.out).mono ?_); rintro e w132 ⟨rfl, hb⟩; refine ⟨_, rfl, ?_⟩; have n0_ := Aside0.mk (blk_below (g := gb198) (o := .cells #[.slice A0_0 l0_0.length c0_0, .slice A0_1 l0_1.length c0_1] 29 (0, 0)) (by (with_reducible repeat (first | refine blk_drewN ?_ _ | refine blk_drew ?_ | refine blk_alloc ?_ _)); exact BK198.out) hb); have n1_ := Aside0.mk (below_step (by repeat (first | (with_reducible first | exact HB.out | apply below_alloc | apply pw_below_drewN | apply below_drew1 | refine below_set ?_ GE198.out) | exact HB.out)) hb); clear BK198; clear HB; have BK198 := n0_; have HB := n1_; clear n0_ n1_; (try clear hb); (try clear hb2); (try clear hk); (try clear hi); have hcz133_0 : w132.cell? ⟨gb198, 0, none⟩ = some (.slice A0_0 l0_0.length c0_0) := (blk_cell BK198.out 0).trans rfl; have hcz133_1 : w132.cell? ⟨gb198, 1, none⟩ = some (.slice A0_1 l0_1.length c0_1) := (blk_cell BK198.out 1).trans rfl; have hfz133_0 := blk_frozen BK198.out 0; have hfz133_1 := blk_frozen BK198.out 1) | ((with_reducible refine gate_callee (f := 12) rfl ?_); refine goesL_ (some 13) rfl rfl Try.func12 (by kernel_rfl) rfl #[.agg #[.slice A0_0 l0_0.length c0_0, .slice A0_1 l0_1.length c0_1]] rfl (by (try simp only [List.map_toArray, List.map_cons, List.map_nil]); first | done | rfl | (simp only [List.length_drop, List.length_take]; rfl)) ?_; (with_reducible refine (meanderlaw09_few.calls (fun k_ => k_ < w.heap.size) _ _ l0_0 (fun k_ => k_ < w.heap.size) _ _ l0_1 t200 t203 _ ?side1 ?side2 A5.out).mono ?_); (case side1 => exact Kd.V_mk HC0_0.out (Kd.F_below (Kd.C_F k23_heap HR0_0.out) (by repeat (first | (with_reducible first | exact HB.out | apply below_alloc | apply pw_below_drewN | apply below_drew1 | refine below_set ?_ GE198.out) | exact HB.out)))); (case side2 => exact Kd.V_mk HC0_1.out (Kd.F_below (Kd.C_F k36_heap HR0_1.out) (by repeat (first | (with_reducible first | exact HB.out | apply below_alloc | apply pw_below_drewN | apply below_drew1 | refine below_set ?_ GE198.out) | exact HB.out)))); rintro e w134 ⟨v201, v204, rfl, ho0, ho1, hb⟩; refine ⟨_, rfl, ?_⟩; have n0_ := Aside0.mk (Kd.V_lower (Kd.V_mono (ok' := fun k_ => k_ ≠ gb198) ho0 (fun k_ hk_ => Or.elim hk_ (fun hs_ => Or.elim hs_ (fun hs_ => fun e_ => Nat.not_le.2 hs_ (by rw [e_]; exact GW198.out)) (fun hs_ => fun e_ => Nat.not_le.2 hs_ (by rw [e_]; exact GW198.out))) (fun hn_ => (Kd.freshB (g := gb198) (o := .cells #[.slice A0_0 l0_0.length c0_0, .slice A0_1 l0_1.length c0_1] 29 (0, 0)) (by (with_reducible repeat (first | refine blk_drewN ?_ _ | refine blk_drew ?_ | refine blk_alloc ?_ _)); exact BK198.out) k_ hn_)))) (below_size (by repeat (first | (with_reducible first | exact HB.out | apply below_alloc | apply pw_below_drewN | apply below_drew1 | refine below_set ?_ GE198.out) | exact HB.out)))); have n1_ := Aside0.mk (Kd.V_lower (Kd.V_mono (ok' := fun k_ => k_ ≠ gb198) ho1 (fun k_ hk_ => Or.elim hk_ (fun hs_ => Or.elim hs_ (fun hs_ => fun e_ => Nat.not_le.2 hs_ (by rw [e_]; exact GW198.out)) (fun hs_ => fun e_ => Nat.not_le.2 hs_ (by rw [e_]; exact GW198.out))) (fun hn_ => (Kd.freshB (g := gb198) (o := .cells #[.slice A0_0 l0_0.length c0_0, .slice A0_1 l0_1.length c0_1] 29 (0, 0)) (by (with_reducible repeat (first | refine blk_drewN ?_ _ | refine blk_drew ?_ | refine blk_alloc ?_ _)); exact BK198.out) k_ hn_)))) (below_size (by repeat (first | (with_reducible first | exact HB.out | apply below_alloc | apply pw_below_drewN | apply below_drew1 | refine below_set ?_ GE198.out) | exact HB.out)))); have n2_ := Aside0.mk (blk_below (g := gb198) (o := .cells #[.slice A0_0 l0_0.length c0_0, .slice A0_1 l0_1.length c0_1] 29 (0, 0)) (by (with_reducible repeat (first | refine blk_drewN ?_ _ | refine blk_drew ?_ | refine blk_alloc ?_ _)); exact BK198.out) hb); have n3_ := Aside0.mk (below_step (by repeat (first | (with_reducible first | exact HB.out | apply below_alloc | apply pw_below_drewN | apply below_drew1 | refine below_set ?_ GE198.out) | exact HB.out)) hb); clear BK198; clear HB; have HO202 := n0_; have HO205 := n1_; have BK198 := n2_; have HB := n3_; clear n0_ n1_ n2_ n3_; (try clear hb); (try clear hb2); (try clear hk); (try clear hi); (try clear ho0); (try clear ho1); obtain ⟨Ao135, co135, eo135⟩ := Kd.V_slice HO202.out; subst eo135; have hcz136_0 : w134.cell? ⟨gb198, 0, none⟩ = some (.slice A0_0 l0_0.length c0_0) := (blk_cell BK198.out 0).trans rfl; have hcz136_1 : w134.cell? ⟨gb198, 1, none⟩ = some (.slice A0_1 l0_1.length c0_1) := (blk_cell BK198.out 1).trans rfl; have hfz136_0 := blk_frozen BK198.out 0; have hfz136_1 := blk_frozen BK198.out 1; obtain ⟨Ao137, co137, eo137⟩ := Kd.V_slice HO205.out; subst eo137) | ((with_reducible refine gate_callee (f := 13) rfl ?_); refine goesL_ (some 15) rfl rfl Try.func13 (by kernel_rfl) rfl #[.agg #[.slice Ao135 t200.length co135, .slice Ao137 t203.length co137]] rfl (by (try simp only [List.map_toArray, List.map_cons, List.map_nil]); first | done | rfl | (simp only [List.length_drop, List.length_take]; rfl)) ?_; (with_reducible refine (valid_Graph.calls k _ _ t200 _ _ t203 t206 _ ?side1 ?side2 ?side3 ?side4 A6.out).mono ?_); (case side1 => refine (Kd.V_reads' (e := 23) (base := w.heap.size) (ok := fun k_ => k_ ≠ gb198) (n := t200.length) (c := co135) ?_).2.2; exact (by (with_reducible repeat (first | apply Kd.V_alloc | apply Kd.V_drewN | apply Kd.V_drew)); exact (Kd.V_mono (Kd.V_far (p := ⟨gb198, 1, none⟩) (Kd.V_far (p := ⟨gb198, 0, none⟩) (Kd.V_mono HO202.out (fun k_ hk => (⟨hk, hk⟩ : _ ∧ k_ ≠ gb198))) (fun _ hk => hk.2) (.slice Ao135 t200.length co135)) (fun _ hk => hk.2) (.slice Ao137 t203.length co137)) (fun _ h_ => h_.1)))); (case side2 => exact (Kd.V_reads' HO202.out).2.1); (case side3 => refine (Kd.V_reads' (e := 36) (base := w.heap.size) (ok := fun k_ => k_ ≠ gb198) (n := t203.length) (c := co137) ?_).2.2; exact (by (with_reducible repeat (first | apply Kd.V_alloc | apply Kd.V_drewN | apply Kd.V_drew)); exact (Kd.V_mono (Kd.V_far (p := ⟨gb198, 1, none⟩) (Kd.V_far (p := ⟨gb198, 0, none⟩) (Kd.V_mono HO205.out (fun k_ hk => (⟨hk, hk⟩ : _ ∧ k_ ≠ gb198))) (fun _ hk => hk.2) (.slice Ao135 t200.length co135)) (fun _ hk => hk.2) (.slice Ao137 t203.length co137)) (fun _ h_ => h_.1)))); (case side4 => exact (Kd.V_reads' HO205.out).2.1); rintro e w138 ⟨rfl, hb⟩; refine ⟨_, rfl, ?_⟩; have n0_ := Aside0.mk (Kd.V_below (by (with_reducible repeat (first | apply Kd.V_alloc | apply Kd.V_drewN | apply Kd.V_drew)); exact (Kd.V_mono (Kd.V_far (p := ⟨gb198, 1, none⟩) (Kd.V_far (p := ⟨gb198, 0, none⟩) (Kd.V_mono HO202.out (fun k_ hk => (⟨hk, hk⟩ : _ ∧ k_ ≠ gb198))) (fun _ hk => hk.2) (.slice Ao135 t200.length co135)) (fun _ hk => hk.2) (.slice Ao137 t203.length co137)) (fun _ h_ => h_.1))) hb); have n1_ := Aside0.mk (Kd.V_below (by (with_reducible repeat (first | apply Kd.V_alloc | apply Kd.V_drewN | apply Kd.V_drew)); exact (Kd.V_mono (Kd.V_far (p := ⟨gb198, 1, none⟩) (Kd.V_far (p := ⟨gb198, 0, none⟩) (Kd.V_mono HO205.out (fun k_ hk => (⟨hk, hk⟩ : _ ∧ k_ ≠ gb198))) (fun _ hk => hk.2) (.slice Ao135 t200.length co135)) (fun _ hk => hk.2) (.slice Ao137 t203.length co137)) (fun _ h_ => h_.1))) hb); have n2_ := Aside0.mk (blk_below (g := gb198) (o := .cells #[.slice Ao135 t200.length co135, .slice Ao137 t203.length co137] 29 (0, 0)) (by (with_reducible repeat (first | refine blk_drewN ?_ _ | refine blk_drew ?_ | refine blk_alloc ?_ _)); refine blk_put (cs := #[.slice Ao135 t200.length co135, .slice A0_1 l0_1.length c0_1]) ?_ 1 _ rfl; (with_reducible repeat (first | refine blk_drewN ?_ _ | refine blk_drew ?_ | refine blk_alloc ?_ _)); refine blk_put (cs := #[.slice A0_0 l0_0.length c0_0, .slice A0_1 l0_1.length c0_1]) ?_ 0 _ rfl; (with_reducible repeat (first | refine blk_drewN ?_ _ | refine blk_drew ?_ | refine blk_alloc ?_ _)); exact BK198.out) hb); have n3_ := Aside0.mk (below_step (by repeat (first | (with_reducible first | exact HB.out | apply below_alloc | apply pw_below_drewN | apply below_drew1 | refine below_set ?_ GE198.out) | exact HB.out)) hb); clear HO202; clear HO205; clear BK198; clear HB; have HO202 := n0_; have HO205 := n1_; have BK198 := n2_; have HB := n3_; clear n0_ n1_ n2_ n3_; (try clear hb); (try clear hb2); (try clear hk); (try clear hi)))
  go_ret
  exact ⟨by first | rfl | (simp [errW_none, errW_some] <;> rfl) | (simp [*, errW_none, errW_some] <;> rfl), by repeat (first | (with_reducible first | exact HB.out | apply below_alloc | apply pw_below_drewN | apply below_drew1 | refine below_set ?_ GE198.out) | exact HB.out)⟩

end Go.Proofs.Ytjlnjlnecipllaa.PAll
