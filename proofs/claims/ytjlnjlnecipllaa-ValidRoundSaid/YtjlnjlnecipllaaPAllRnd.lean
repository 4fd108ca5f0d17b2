-- Grafted by graft.py of this repo out of a print of the kit's printer. Not trusted: Lean checks it.
import Derived.Test.YtjlnjlnecipllaaPAllx0
import Derived.Test.YtjlnjlnecipllaaPAllx1
import Derived.Test.YtjlnjlnecipllaaPAllx16
import Derived.Test.YtjlnjlnecipllaaPAllx17
import Derived.Test.YtjlnjlnecipllaaPAllx4
import Derived.Test.YtjlnjlnecipllaaPAllx5
import Derived.Test.YtjlnjlnecipllaaPAllx7
import Derived.Test.YtjlnjlnecipllaaPAllx8
import Derived.Test.YtjlnjlnecipllaaPAllRndS
namespace Go.Proofs.Ytjlnjlnecipllaa.PAll
open Go.RowKit Go.Proofs.YtjlnjlnecipllaaW.PrintWords Go.Proofs.YtjlnjlnecipllaaW.PrintLast Go.Proofs.YtjlnjlnecipllaaW.PrintMore
attribute [local go_sem] max2_int min2_int max_two min_two max_three min_three max_four min_four   -- for this text's walks alone
set_option linter.unusedVariables false
set_option linter.unusedSimpArgs false

theorem far7 {w : World} {b : Nat} {v0 v1 v2 v3 v4 v5 v6 : Value} {a : Addr} (ha : a.block ≠ b) :
    (((((((w.setCell ⟨b, 0, none⟩ v0).setCell ⟨b, 1, none⟩ v1).setCell ⟨b, 2, none⟩ v2).setCell ⟨b, 3, none⟩ v3).setCell ⟨b, 4, none⟩ v4).setCell ⟨b, 5, none⟩ v5).setCell ⟨b, 6, none⟩ v6).cell? a = w.cell? a := by
  have h : ∀ (W : World) (i : Nat) (v : Value), (W.setCell ⟨b, i, none⟩ v).cell? a = W.cell? a := fun W i v => cell_far (p := ⟨b, i, none⟩) ha v
  rw [h, h, h, h, h, h, h]
def meanderlaw09_ValidRound_Rnd.T22 : Bool × List (List Nat × List Nat) := (true, [([], []), ([], []), ([1], [1]), ([], []), ([2, 3], [2, 3]), ([4], [4]), ([5], [5]), ([0, 6, 6], [0, 6]), ([7], [7]), ([8], [8]), ([8], [8]), ([], []), ([11, 9, 7, 0, 1, 2, 3, 4, 5, 6, 7, 8, 9, 11], [9, 11]), ([10, 12, 0, 1, 2, 3, 4, 5, 6, 7, 8, 9, 10, 11, 12], [10])])
def meanderlaw09_ValidRound_Rnd.B22 : List Nat := [0, 0, 2, 0, 14, 30, 62, 127, 255, 511, 511, 0, 3071, 8191]
theorem meanderlaw09_ValidRound_Rnd.tab22 : rtab .any (opsOf Try.f8 22) = meanderlaw09_ValidRound_Rnd.T22 := by kernel_rfl
theorem meanderlaw09_ValidRound_Rnd.bits22 : waitsOk meanderlaw09_ValidRound_Rnd.T22.2 meanderlaw09_ValidRound_Rnd.B22 = true := by kernel_rfl
def meanderlaw09_ValidRound_Rnd.T26 : Bool × List (List Nat × List Nat) := (true, [([], []), ([], []), ([1], [1]), ([], []), ([2, 3], [2, 3]), ([4], [4]), ([5], [5]), ([6], [6]), ([0, 7, 7], [0, 7]), ([8, 8, 0, 1, 2, 3, 4, 5, 6, 7, 8], [8])])
def meanderlaw09_ValidRound_Rnd.B26 : List Nat := [0, 0, 2, 0, 14, 30, 62, 126, 255, 511]
theorem meanderlaw09_ValidRound_Rnd.tab26 : rtab .any (opsOf Try.f8 26) = meanderlaw09_ValidRound_Rnd.T26 := by kernel_rfl
theorem meanderlaw09_ValidRound_Rnd.bits26 : waitsOk meanderlaw09_ValidRound_Rnd.T26.2 meanderlaw09_ValidRound_Rnd.B26 = true := by kernel_rfl
set_option maxHeartbeats 8000000 in
set_option maxRecDepth 100000 in
theorem meanderlaw09_ValidRound_Rnd.calls (k : Nat) (A0_0 : Option Addr) (c0_0 : Nat) (l0_0 : List (S23)) (A0_1 : Option Addr) (c0_1 : Nat) (l0_1 : List (S36)) (a1 : Int) (A2 : Option Addr) (c2 : Nat) (l2 : List Int) (r : Bool) (w : World) (hr0_0 : Kd.C k23 w A0_0 l0_0.length l0_0) (hc0_0 : l0_0.length ≤ c0_0) (hr0_1 : Kd.C k36 w A0_1 l0_1.length l0_1) (hc0_1 : l0_1.length ≤ c0_1) (hr2 : Kd.C (Kd.int .i64) w A2 l2.length l2) (hc2 : l2.length ≤ c2) (h : meanderlaw09_ValidRound_Rnd.f k l0_0 l0_1 a1 l2 = some r) :
  Calls Try.prog 8 #[.agg #[.slice A0_0 l0_0.length c0_0, .slice A0_1 l0_1.length c0_1], .int .i64 a1, .slice A2 l2.length c2] w fun e w' => e = .returned (.bool r) ∧ Below w.heap.size w w' := by
 have hu29 := Try.underlying29
 have hu42 := Try.underlying42
 have hu23 := Try.underlying23
 have HR0_0 := Aside0.mk hr0_0
 have HC0_0 := Aside0.mk hc0_0
 clear hr0_0 hc0_0
 have HR0_1 := Aside0.mk hr0_1
 have HC0_1 := Aside0.mk hc0_1
 clear hr0_1 hc0_1
 have HR2 := Aside0.mk hr2
 have HC2 := Aside0.mk hc2
 clear hr2 hc2
 have HB := Aside0.mk (Below.refl w.heap.size w)
 have H : ((meanderlaw09_shown.f k).bind fun t292 => ((meanderlaw09_few.f l0_0 l0_1).bind fun bt293 => ((valid_Graph.f k bt293.1 bt293.2).bind fun t299 => (if t299 = 0 then (if (bt293.1.length : Int) = 0 then (none) else (if (Int.tmod a1 (bt293.1.length : Int)) < 0 then (meanderlaw09_ValidRound_Rnd.j0 k l2 t292 (wrap64 (-(Int.tmod a1 (bt293.1.length : Int)))) bt293.1 bt293.2) else (meanderlaw09_ValidRound_Rnd.j0 k l2 t292 (Int.tmod a1 (bt293.1.length : Int)) bt293.1 bt293.2))) else (some t292))))) = some r := h
 clear h
 replace H := Option.bind_eq_some_iff.mp H
 obtain ⟨t292, A40, H⟩ := H
 replace H : ((meanderlaw09_few.f l0_0 l0_1).bind fun bt293 => ((valid_Graph.f k bt293.1 bt293.2).bind fun t299 => (if t299 = 0 then (if (bt293.1.length : Int) = 0 then (none) else (if (Int.tmod a1 (bt293.1.length : Int)) < 0 then (meanderlaw09_ValidRound_Rnd.j0 k l2 t292 (wrap64 (-(Int.tmod a1 (bt293.1.length : Int)))) bt293.1 bt293.2) else (meanderlaw09_ValidRound_Rnd.j0 k l2 t292 (Int.tmod a1 (bt293.1.length : Int)) bt293.1 bt293.2))) else (some t292)))) = some r := H
 have A4 := Aside0.mk A40
 clear A40
 replace H := Option.bind_eq_some_iff.mp H
 obtain ⟨⟨t293, t296⟩, A50, H⟩ := H
 replace H : ((valid_Graph.f k t293 t296).bind fun t299 => (if t299 = 0 then (if (t293.length : Int) = 0 then (none) else (if (Int.tmod a1 (t293.length : Int)) < 0 then (meanderlaw09_ValidRound_Rnd.j0 k l2 t292 (wrap64 (-(Int.tmod a1 (t293.length : Int)))) t293 t296) else (meanderlaw09_ValidRound_Rnd.j0 k l2 t292 (Int.tmod a1 (t293.length : Int)) t293 t296))) else (some t292))) = some r := H
 have A5 := Aside0.mk A50
 clear A50
 replace H := Option.bind_eq_some_iff.mp H
 obtain ⟨t299, A60, H⟩ := H
 replace H : (if t299 = 0 then (if (t293.length : Int) = 0 then (none) else (if (Int.tmod a1 (t293.length : Int)) < 0 then (meanderlaw09_ValidRound_Rnd.j0 k l2 t292 (wrap64 (-(Int.tmod a1 (t293.length : Int)))) t293 t296) else (meanderlaw09_ValidRound_Rnd.j0 k l2 t292 (Int.tmod a1 (t293.length : Int)) t293 t296))) else (some t292)) = some r := H
 have A6 := Aside0.mk A60
 clear A60
 by_cases c7 : t299 = 0
 ·rw [if_pos c7] at H
  have c7b0 : (t299 == 0) = true := beq_iff_eq.mpr c7
  have c7b1 : (t299 != 0) = false := bne_eq_false_iff_eq.mpr c7
  clear c7
  by_cases c8 : (t293.length : Int) = 0
  ·rw [if_pos c8] at H
   exact absurd H (by simp)
  ·rw [if_neg c8] at H
   have c8b0 : ((t293.length : Int) == 0) = false := beq_eq_false_iff_ne.mpr c8
   have c8b1 : ((t293.length : Int) != 0) = true := bne_iff_ne.mpr c8
   have c8b2 : ¬ (t293 = []) := fun h_ => c8 (by rw [h_]; rfl)
   have HC9 := Aside0.mk H
   clear H
   go_enter Try.func8, Try.ntmps8
   go_upto_if 30 with (first | ((with_reducible refine gate_dst (N := 3) rfl ?_); refine box_event ?hg (N := 3) ?hd (cs := #[.slice A0_0 l0_0.length c0_0, .slice A0_1 l0_1.length c0_1]) (t := 29) ?hr ?_; (case hd => rfl); (case hg => rfl); (case hr => first | (go_simp; done) | (go_simp; rfl)); intro gb291 hg w10 hbox hb; have n0_ := Aside0.mk (below_step (by repeat (first | (with_reducible first | exact HB.out | apply below_alloc | apply pw_below_drewN | apply below_drew1) | exact HB.out)) hb); have n1_ := Aside0.mk (hbox); have n2_ := Aside0.mk ((by rw [hg]; exact (below_size (by repeat (first | (with_reducible first | exact HB.out | apply below_alloc | apply pw_below_drewN | apply below_drew1) | exact HB.out))) : w.heap.size ≤ gb291)); have n3_ := Aside0.mk ((by rw [hg]; exact (below_size (by repeat (first | (with_reducible first | exact HB.out | apply below_alloc | apply pw_below_drewN | apply below_drew1) | exact HB.out))) : w.heap.size ≤ gb291)); clear HB; have HB := n0_; have BK291 := n1_; have GW291 := n2_; have GE291 := n3_; clear n0_ n1_ n2_ n3_; clear hb hbox hg) | ((with_reducible refine gate_callee (f := 9) rfl ?_); refine goesL_ (some 17) rfl rfl Try.func9 (by kernel_rfl) rfl #[] rfl (by (try simp only [List.map_toArray, List.map_cons, List.map_nil]); first | done | rfl | (simp only [List.length_drop, List.length_take]; rfl)) ?_; (with_reducible refine (meanderlaw09_shown.calls k  t292 _ A4.out).mono ?_); rintro e w11 ⟨rfl, hb⟩; refine ⟨_, rfl, ?_⟩; have n0_ := Aside0.mk (blk_below (g := gb291) (o := .cells #[.slice A0_0 l0_0.length c0_0, .slice A0_1 l0_1.length c0_1] 29 (0, 0)) (by (with_reducible repeat (first | refine blk_drewN ?_ _ | refine blk_drew ?_ | refine blk_alloc ?_ _)); exact BK291.out) hb); have n1_ := Aside0.mk (below_step (by repeat (first | (with_reducible first | exact HB.out | apply below_alloc | apply pw_below_drewN | apply below_drew1 | refine below_set ?_ GE291.out) | exact HB.out)) hb); clear BK291; clear HB; have BK291 := n0_; have HB := n1_; clear n0_ n1_; (try clear hb); (try clear hb2); (try clear hk); (try clear hi); have hcz12_0 : w11.cell? ⟨gb291, 0, none⟩ = some (.slice A0_0 l0_0.length c0_0) := (blk_cell BK291.out 0).trans rfl; have hcz12_1 : w11.cell? ⟨gb291, 1, none⟩ = some (.slice A0_1 l0_1.length c0_1) := (blk_cell BK291.out 1).trans rfl; have hfz12_0 := blk_frozen BK291.out 0; have hfz12_1 := blk_frozen BK291.out 1) | ((with_reducible refine gate_callee (f := 12) rfl ?_); refine goesL_ (some 19) rfl rfl Try.func12 (by kernel_rfl) rfl #[.agg #[.slice A0_0 l0_0.length c0_0, .slice A0_1 l0_1.length c0_1]] rfl (by (try simp only [List.map_toArray, List.map_cons, List.map_nil]); first | done | rfl | (simp only [List.length_drop, List.length_take]; rfl)) ?_; (with_reducible refine (meanderlaw09_few.calls (fun k_ => k_ < w.heap.size) _ _ l0_0 (fun k_ => k_ < w.heap.size) _ _ l0_1 t293 t296 _ ?side1 ?side2 A5.out).mono ?_); (case side1 => exact Kd.V_mk HC0_0.out (Kd.F_below (Kd.C_F k23_heap HR0_0.out) (by repeat (first | (with_reducible first | exact HB.out | apply below_alloc | apply pw_below_drewN | apply below_drew1 | refine below_set ?_ GE291.out) | exact HB.out)))); (case side2 => exact Kd.V_mk HC0_1.out (Kd.F_below (Kd.C_F k36_heap HR0_1.out) (by repeat (first | (with_reducible first | exact HB.out | apply below_alloc | apply pw_below_drewN | apply below_drew1 | refine below_set ?_ GE291.out) | exact HB.out)))); rintro e w13 ⟨v294, v297, rfl, ho0, ho1, hb⟩; refine ⟨_, rfl, ?_⟩; have n0_ := Aside0.mk (Kd.V_lower (Kd.V_mono (ok' := fun k_ => k_ ≠ gb291) ho0 (fun k_ hk_ => Or.elim hk_ (fun hs_ => Or.elim hs_ (fun hs_ => fun e_ => Nat.not_le.2 hs_ (by rw [e_]; exact GW291.out)) (fun hs_ => fun e_ => Nat.not_le.2 hs_ (by rw [e_]; exact GW291.out))) (fun hn_ => (Kd.freshB (g := gb291) (o := .cells #[.slice A0_0 l0_0.length c0_0, .slice A0_1 l0_1.length c0_1] 29 (0, 0)) (by (with_reducible repeat (first | refine blk_drewN ?_ _ | refine blk_drew ?_ | refine blk_alloc ?_ _)); exact BK291.out) k_ hn_)))) (below_size (by repeat (first | (with_reducible first | exact HB.out | apply below_alloc | apply pw_below_drewN | apply below_drew1 | refine below_set ?_ GE291.out) | exact HB.out)))); have n1_ := Aside0.mk (Kd.V_lower (Kd.V_mono (ok' := fun k_ => k_ ≠ gb291) ho1 (fun k_ hk_ => Or.elim hk_ (fun hs_ => Or.elim hs_ (fun hs_ => fun e_ => Nat.not_le.2 hs_ (by rw [e_]; exact GW291.out)) (fun hs_ => fun e_ => Nat.not_le.2 hs_ (by rw [e_]; exact GW291.out))) (fun hn_ => (Kd.freshB (g := gb291) (o := .cells #[.slice A0_0 l0_0.length c0_0, .slice A0_1 l0_1.length c0_1] 29 (0, 0)) (by (with_reducible repeat (first | refine blk_drewN ?_ _ | refine blk_drew ?_ | refine blk_alloc ?_ _)); exact BK291.out) k_ hn_)))) (below_size (by repeat (first | (with_reducible first | exact HB.out | apply below_alloc | apply pw_below_drewN | apply below_drew1 | refine below_set ?_ GE291.out) | exact HB.out)))); have n2_ := Aside0.mk (blk_below (g := gb291) (o := .cells #[.slice A0_0 l0_0.length c0_0, .slice A0_1 l0_1.length c0_1] 29 (0, 0)) (by (with_reducible repeat (first | refine blk_drewN ?_ _ | refine blk_drew ?_ | refine blk_alloc ?_ _)); exact BK291.out) hb); have n3_ := Aside0.mk (below_step (by repeat (first | (with_reducible first | exact HB.out | apply below_alloc | apply pw_below_drewN | apply below_drew1 | refine below_set ?_ GE291.out) | exact HB.out)) hb); clear BK291; clear HB; have HO295 := n0_; have HO298 := n1_; have BK291 := n2_; have HB := n3_; clear n0_ n1_ n2_ n3_; (try clear hb); (try clear hb2); (try clear hk); (try clear hi); (try clear ho0); (try clear ho1); obtain ⟨Ao14, co14, eo14⟩ := Kd.V_slice HO295.out; subst eo14; have hcz15_0 : w13.cell? ⟨gb291, 0, none⟩ = some (.slice A0_0 l0_0.length c0_0) := (blk_cell BK291.out 0).trans rfl; have hcz15_1 : w13.cell? ⟨gb291, 1, none⟩ = some (.slice A0_1 l0_1.length c0_1) := (blk_cell BK291.out 1).trans rfl; have hfz15_0 := blk_frozen BK291.out 0; have hfz15_1 := blk_frozen BK291.out 1; obtain ⟨Ao16, co16, eo16⟩ := Kd.V_slice HO298.out; subst eo16) | ((with_reducible refine gate_callee (f := 13) rfl ?_); refine goesL_ (some 21) rfl rfl Try.func13 (by kernel_rfl) rfl #[.agg #[.slice Ao14 t293.length co14, .slice Ao16 t296.length co16]] rfl (by (try simp only [List.map_toArray, List.map_cons, List.map_nil]); first | done | rfl | (simp only [List.length_drop, List.length_take]; rfl)) ?_; (with_reducible refine (valid_Graph.calls k _ _ t293 _ _ t296 t299 _ ?side1 ?side2 ?side3 ?side4 A6.out).mono ?_); (case side1 => refine (Kd.V_reads' (e := 23) (base := w.heap.size) (ok := fun k_ => k_ ≠ gb291) (n := t293.length) (c := co14) ?_).2.2; exact (by (with_reducible repeat (first | apply Kd.V_alloc | apply Kd.V_drewN | apply Kd.V_drew)); exact (Kd.V_mono (Kd.V_far (p := ⟨gb291, 1, none⟩) (Kd.V_far (p := ⟨gb291, 0, none⟩) (Kd.V_mono HO295.out (fun k_ hk => (⟨hk, hk⟩ : _ ∧ k_ ≠ gb291))) (fun _ hk => hk.2) (.slice Ao14 t293.length co14)) (fun _ hk => hk.2) (.slice Ao16 t296.length co16)) (fun _ h_ => h_.1)))); (case side2 => exact (Kd.V_reads' HO295.out).2.1); (case side3 => refine (Kd.V_reads' (e := 36) (base := w.heap.size) (ok := fun k_ => k_ ≠ gb291) (n := t296.length) (c := co16) ?_).2.2; exact (by (with_reducible repeat (first | apply Kd.V_alloc | apply Kd.V_drewN | apply Kd.V_drew)); exact (Kd.V_mono (Kd.V_far (p := ⟨gb291, 1, none⟩) (Kd.V_far (p := ⟨gb291, 0, none⟩) (Kd.V_mono HO298.out (fun k_ hk => (⟨hk, hk⟩ : _ ∧ k_ ≠ gb291))) (fun _ hk => hk.2) (.slice Ao14 t293.length co14)) (fun _ hk => hk.2) (.slice Ao16 t296.length co16)) (fun _ h_ => h_.1)))); (case side4 => exact (Kd.V_reads' HO298.out).2.1); rintro e w17 ⟨rfl, hb⟩; refine ⟨_, rfl, ?_⟩; have n0_ := Aside0.mk (Kd.V_below (by (with_reducible repeat (first | apply Kd.V_alloc | apply Kd.V_drewN | apply Kd.V_drew)); exact (Kd.V_mono (Kd.V_far (p := ⟨gb291, 1, none⟩) (Kd.V_far (p := ⟨gb291, 0, none⟩) (Kd.V_mono HO295.out (fun k_ hk => (⟨hk, hk⟩ : _ ∧ k_ ≠ gb291))) (fun _ hk => hk.2) (.slice Ao14 t293.length co14)) (fun _ hk => hk.2) (.slice Ao16 t296.length co16)) (fun _ h_ => h_.1))) hb); have n1_ := Aside0.mk (Kd.V_below (by (with_reducible repeat (first | apply Kd.V_alloc | apply Kd.V_drewN | apply Kd.V_drew)); exact (Kd.V_mono (Kd.V_far (p := ⟨gb291, 1, none⟩) (Kd.V_far (p := ⟨gb291, 0, none⟩) (Kd.V_mono HO298.out (fun k_ hk => (⟨hk, hk⟩ : _ ∧ k_ ≠ gb291))) (fun _ hk => hk.2) (.slice Ao14 t293.length co14)) (fun _ hk => hk.2) (.slice Ao16 t296.length co16)) (fun _ h_ => h_.1))) hb); have n2_ := Aside0.mk (blk_below (g := gb291) (o := .cells #[.slice Ao14 t293.length co14, .slice Ao16 t296.length co16] 29 (0, 0)) (by (with_reducible repeat (first | refine blk_drewN ?_ _ | refine blk_drew ?_ | refine blk_alloc ?_ _)); refine blk_put (cs := #[.slice Ao14 t293.length co14, .slice A0_1 l0_1.length c0_1]) ?_ 1 _ rfl; (with_reducible repeat (first | refine blk_drewN ?_ _ | refine blk_drew ?_ | refine blk_alloc ?_ _)); refine blk_put (cs := #[.slice A0_0 l0_0.length c0_0, .slice A0_1 l0_1.length c0_1]) ?_ 0 _ rfl; (with_reducible repeat (first | refine blk_drewN ?_ _ | refine blk_drew ?_ | refine blk_alloc ?_ _)); exact BK291.out) hb); have n3_ := Aside0.mk (below_step (by repeat (first | (with_reducible first | exact HB.out | apply below_alloc | apply pw_below_drewN | apply below_drew1 | refine below_set ?_ GE291.out) | exact HB.out)) hb); clear HO295; clear HO298; clear BK291; clear HB; have HO295 := n0_; have HO298 := n1_; have BK291 := n2_; have HB := n3_; clear n0_ n1_ n2_ n3_; (try clear hb); (try clear hb2); (try clear hk); (try clear hi); have hcz18_0 : w17.cell? ⟨gb291, 0, none⟩ = some (.slice Ao14 t293.length co14) := (blk_cell BK291.out 0).trans rfl; have hcz18_1 : w17.cell? ⟨gb291, 1, none⟩ = some (.slice Ao16 t296.length co16) := (blk_cell BK291.out 1).trans rfl; have hfz18_0 := blk_frozen BK291.out 0; have hfz18_1 := blk_frozen BK291.out 1))
   (try simp only [Act.put, List.setIfInBounds_toArray, List.set_cons_zero, List.set_cons_succ])
   go_cut [8] (fun v8 wc => ∃ (kq : Nat) (x8_8 : Int), v8 = .int .i64 x8_8 ∧ Aside0 (meanderlaw09_ValidRound_Rnd.j0 kq l2 t292 x8_8 t293 t296 = some r) ∧ Aside0 (kq ≤ k) ∧ Aside0 (Kd.V k23 23 wc w.heap.size (fun k_ => k_ ≠ gb291) (.slice Ao14 t293.length co14) t293) ∧ Aside0 (Kd.V k36 36 wc w.heap.size (fun k_ => k_ ≠ gb291) (.slice Ao16 t296.length co16) t296) ∧ Aside0 (wc.heap[gb291]? = some (.cells #[(.slice Ao14 t293.length co14), (.slice Ao16 t296.length co16)] 29 (0, 0))) ∧ Aside0 (Below w.heap.size w wc))
   case first =>
    have H := HC9.out
    clear HC9
    by_cases c19 : (Int.tmod a1 (t293.length : Int)) < 0
    ·rw [if_pos c19] at H
     have c19b0 : decide ((Int.tmod a1 (t293.length : Int)) < 0) = true := decide_eq_true c19
     clear c19
     (first | rw [c19b0] | (simp only [i64_w, i32_w]; rw [c19b0]) | skip)
     have H' := Aside0.mk H
     clear H
     go_wp2
     go_meet
     case rel => exact ⟨_, (wrap64 (-(Int.tmod a1 (t293.length : Int)))), (by first | rfl | (simp; done) | (simp [*]; done)), H', ⟨by first | omega | exact Nat.le_refl _⟩, ⟨by (with_reducible repeat (first | apply Kd.V_alloc | apply Kd.V_drewN | apply Kd.V_drew)); exact HO295.out⟩, ⟨by (with_reducible repeat (first | apply Kd.V_alloc | apply Kd.V_drewN | apply Kd.V_drew)); exact HO298.out⟩, ⟨by (with_reducible repeat (first | refine blk_drewN ?_ _ | refine blk_drew ?_ | refine blk_alloc ?_ _)); exact BK291.out⟩, ⟨by repeat (first | (with_reducible first | exact HB.out | apply below_alloc | apply pw_below_drewN | apply below_drew1 | refine below_set ?_ GE291.out) | exact HB.out)⟩⟩
    ·rw [if_neg c19] at H
     have c19b0 : decide ((Int.tmod a1 (t293.length : Int)) < 0) = false := decide_eq_false c19
     clear c19
     (first | rw [c19b0] | (simp only [i64_w, i32_w]; rw [c19b0]) | skip)
     have H' := Aside0.mk H
     clear H
     go_wp2
     go_meet
     case rel => exact ⟨_, (Int.tmod a1 (t293.length : Int)), (by first | rfl | (simp; done) | (simp [*]; done)), H', ⟨by first | omega | exact Nat.le_refl _⟩, ⟨by (with_reducible repeat (first | apply Kd.V_alloc | apply Kd.V_drewN | apply Kd.V_drew)); exact HO295.out⟩, ⟨by (with_reducible repeat (first | apply Kd.V_alloc | apply Kd.V_drewN | apply Kd.V_drew)); exact HO298.out⟩, ⟨by (with_reducible repeat (first | refine blk_drewN ?_ _ | refine blk_drew ?_ | refine blk_alloc ?_ _)); exact BK291.out⟩, ⟨by repeat (first | (with_reducible first | exact HB.out | apply below_alloc | apply pw_below_drewN | apply below_drew1 | refine below_set ?_ GE291.out) | exact HB.out)⟩⟩
   case rest =>
    clear HC9
    try clear c1
    try clear c2
    try clear p2
    try clear p6
    try clear c7
    try clear c7b0
    try clear c7b1
    try clear c8
    try clear c8b0
    try clear c8b1
    try clear c8b2
    try clear c9
    try clear c12
    try clear c13
    try clear c19
    try clear c19b0
    try clear hcz12_0
    try clear hcz12_1
    try clear hcz15_0
    try clear hcz15_1
    try clear hcz18_0
    try clear hcz18_1
    try clear hfz12_0
    try clear hfz12_1
    try clear hfz15_0
    try clear hfz15_1
    try clear hfz18_0
    try clear hfz18_1
    obtain ⟨kq, x8_8, rfl, HA, HJ8, HO_292000, HO_292001, BK291, HB⟩ := hcut
    cases kq with
    | zero => exact absurd HA.out (by simp [meanderlaw09_ValidRound_Rnd.j0])
    | succ kj8 =>
     have H := HA.out
     clear HA
     simp only [meanderlaw09_ValidRound_Rnd.j0] at H
     by_cases c20 : 0 ≤ x8_8
     ·rw [if_pos c20] at H
      have c20b0 : decide (0 ≤ x8_8) = true := decide_eq_true c20
      clear c20
      by_cases c21 : x8_8 < (t293.length : Int)
      ·rw [if_pos c21] at H
       have c21b0 : decide (x8_8 < (t293.length : Int)) = true := decide_eq_true c21
       clear c21
       replace H := Option.bind_eq_some_iff.mp H
       obtain ⟨⟨t301, t302, t303, t304, t305, t306, t307⟩, A220, H⟩ := H
       replace H : (meanderlaw09_ValidRound_Rnd.l0 kj8 l2 t292 x8_8 x8_8 0 t293 t296 t301 t302 t303 t304 t305 t306 t307) = some r := H
       have A22 := Aside0.mk A220
       clear A220
       have H' := Aside0.mk H
       clear H
       have hcz23_0 : wc.cell? ⟨gb291, 0, none⟩ = some (.slice Ao14 t293.length co14) := (blk_cell BK291.out 0).trans rfl
       have hcz23_1 : wc.cell? ⟨gb291, 1, none⟩ = some (.slice Ao16 t296.length co16) := (blk_cell BK291.out 1).trans rfl
       have hfz23_0 := blk_frozen BK291.out 0
       have hfz23_1 := blk_frozen BK291.out 1
       have p300 : 0 ≤ (x8_8 : Int) := of_decide_eq_true (by first | (with_reducible assumption) | assumption)
       have q300 : x8_8 < (t293.length : Int) := of_decide_eq_true (by first | (with_reducible assumption) | assumption)
       obtain ⟨ad300, e300, hx300_0, hx300_1, hx300_2, hx300_3⟩ := at_T23 (Kd.V_reads' HO_292000.out).2.2 x8_8 p300 q300
       cases e300
       replace p300 := eq_true p300
       replace q300 := eq_true q300
       go_wp2_with (first | ((with_reducible refine gate_callee (f := 16) rfl ?_); refine goesL_ (some 40) rfl rfl Try.func16 (by kernel_rfl) rfl #[.int .i64 ((rd_T23 t293 x8_8).f3)] rfl (by (try simp only [List.map_toArray, List.map_cons, List.map_nil]); first | done | rfl | (simp only [List.length_drop, List.length_take]; rfl)) ?_; (with_reducible refine (meanderref02_Same.calls ((rd_T23 t293 x8_8).f3) t301 t302 t303 t304 t305 t306 t307 _ A22.out).mono ?_); rintro e w24 ⟨rfl, hb⟩; refine ⟨_, rfl, ?_⟩; have n0_ := Aside0.mk (Kd.V_below (by (with_reducible repeat (first | apply Kd.V_alloc | apply Kd.V_drewN | apply Kd.V_drew)); exact HO_292000.out) hb); have n1_ := Aside0.mk (Kd.V_below (by (with_reducible repeat (first | apply Kd.V_alloc | apply Kd.V_drewN | apply Kd.V_drew)); exact HO_292001.out) hb); have n2_ := Aside0.mk (blk_below (g := gb291) (o := .cells #[.slice (some ad300) t293.length co14, .slice Ao16 t296.length co16] 29 (0, 0)) (by (with_reducible repeat (first | refine blk_drewN ?_ _ | refine blk_drew ?_ | refine blk_alloc ?_ _)); exact BK291.out) hb); have n3_ := Aside0.mk (below_step (by repeat (first | (with_reducible first | exact HB.out | apply below_alloc | apply pw_below_drewN | apply below_drew1 | refine below_set ?_ GE291.out) | exact HB.out)) hb); clear HO_292000; clear HO_292001; clear BK291; clear HB; have HO_292000 := n0_; have HO_292001 := n1_; have BK291 := n2_; have HB := n3_; clear n0_ n1_ n2_ n3_; (try clear hb); (try clear hb2); (try clear hk); (try clear hi)) | ((with_reducible refine gate_dst (N := 10) rfl ?_); refine box_event ?hg (N := 10) ?hd (cs := #[.int .i64 0, .int .i64 0, .int .i64 0, .int .i64 0, .int .i64 0, .int .i64 0, .int .i64 0]) (t := 42) ?hr ?_; (case hd => rfl); (case hg => rfl); (case hr => first | (go_simp; done) | (go_simp; rfl)); intro gb308 hg w25 hbox hb; have n0_ := Aside0.mk (Kd.V_below (Kd.V_elderB (by (with_reducible repeat (first | apply Kd.V_alloc | apply Kd.V_drewN | apply Kd.V_drew)); exact HO_292000.out) gb308 (Nat.le_of_eq hg.symm)) hb); have n1_ := Aside0.mk (Kd.V_below (Kd.V_elderB (by (with_reducible repeat (first | apply Kd.V_alloc | apply Kd.V_drewN | apply Kd.V_drew)); exact HO_292001.out) gb308 (Nat.le_of_eq hg.symm)) hb); have n2_ := Aside0.mk (blk_below (g := gb291) (o := .cells #[.slice (some ad300) t293.length co14, .slice Ao16 t296.length co16] 29 (0, 0)) (by (with_reducible repeat (first | refine blk_drewN ?_ _ | refine blk_drew ?_ | refine blk_alloc ?_ _)); exact BK291.out) hb); have n3_ := Aside0.mk (below_step (by repeat (first | (with_reducible first | exact HB.out | apply below_alloc | apply pw_below_drewN | apply below_drew1 | refine below_set ?_ GE291.out) | exact HB.out)) hb); have n4_ := Aside0.mk (hbox); have n5_ := Aside0.mk ((by rw [hg]; exact (below_size (by repeat (first | (with_reducible first | exact HB.out | apply below_alloc | apply pw_below_drewN | apply below_drew1 | refine below_set ?_ GE291.out) | exact HB.out))) : w.heap.size ≤ gb308)); have n6_ := Aside0.mk ((by rw [hg]; exact (below_size (by repeat (first | (with_reducible first | exact HB.out | apply below_alloc | apply pw_below_drewN | apply below_drew1 | refine below_set ?_ GE291.out) | exact HB.out))) : w.heap.size ≤ gb308)); have n7_ := Aside0.mk ((by rw [hg]; exact Nat.ne_of_lt (blk_lt (g := gb291) (o := .cells #[.slice (some ad300) t293.length co14, .slice Ao16 t296.length co16] 29 (0, 0)) (by (with_reducible repeat (first | refine blk_drewN ?_ _ | refine blk_drew ?_ | refine blk_alloc ?_ _)); exact BK291.out)) : gb291 ≠ gb308)); have n8_ := Aside0.mk ((by rw [hg]; exact Nat.ne_of_gt (blk_lt (g := gb291) (o := .cells #[.slice (some ad300) t293.length co14, .slice Ao16 t296.length co16] 29 (0, 0)) (by (with_reducible repeat (first | refine blk_drewN ?_ _ | refine blk_drew ?_ | refine blk_alloc ?_ _)); exact BK291.out)) : gb308 ≠ gb291)); clear HO_292000; clear HO_292001; clear BK291; clear HB; have HO_292000 := n0_; have HO_292001 := n1_; have BK291 := n2_; have HB := n3_; have BK308 := n4_; have GW308 := n5_; have GE308 := n6_; have NB291_308 := n7_; have NB308_291 := n8_; clear n0_ n1_ n2_ n3_ n4_ n5_ n6_ n7_ n8_; clear hb hbox hg; have hnb26 := NB308_291.out; have hnc26 := NB291_308.out; have hcz27_0 : w25.cell? ⟨gb308, 0, none⟩ = some (.int .i64 0) := (blk_cell BK308.out 0).trans rfl; have hcz27_1 : w25.cell? ⟨gb308, 1, none⟩ = some (.int .i64 0) := (blk_cell BK308.out 1).trans rfl; have hcz27_2 : w25.cell? ⟨gb308, 2, none⟩ = some (.int .i64 0) := (blk_cell BK308.out 2).trans rfl; have hcz27_3 : w25.cell? ⟨gb308, 3, none⟩ = some (.int .i64 0) := (blk_cell BK308.out 3).trans rfl; have hcz27_4 : w25.cell? ⟨gb308, 4, none⟩ = some (.int .i64 0) := (blk_cell BK308.out 4).trans rfl; have hcz27_5 : w25.cell? ⟨gb308, 5, none⟩ = some (.int .i64 0) := (blk_cell BK308.out 5).trans rfl; have hcz27_6 : w25.cell? ⟨gb308, 6, none⟩ = some (.int .i64 0) := (blk_cell BK308.out 6).trans rfl; have hfz27_0 := blk_frozen BK308.out 0; have hfz27_1 := blk_frozen BK308.out 1; have hfz27_2 := blk_frozen BK308.out 2; have hfz27_3 := blk_frozen BK308.out 3; have hfz27_4 := blk_frozen BK308.out 4; have hfz27_5 := blk_frozen BK308.out 5; have hfz27_6 := blk_frozen BK308.out 6))
       go_loopg [9, 11] kj8 (fun kq v9 v11 w' => ∃ (x9_2 : Int) (x11_2 : Int) (x309000_2 : Int) (x309001_2 : Int) (x309002_2 : Int) (x309003_2 : Int) (x309004_2 : Int) (x309005_2 : Int) (x309006_2 : Int), v9 = .int .i64 x9_2 ∧ v11 = .int .i64 x11_2 ∧ Aside0 (meanderlaw09_ValidRound_Rnd.l0 kq l2 t292 x8_8 x9_2 x11_2 t293 t296 x309000_2 x309001_2 x309002_2 x309003_2 x309004_2 x309005_2 x309006_2 = some r) ∧ Aside0 (kq ≤ kj8) ∧ Aside0 (Kd.V k23 23 w' w.heap.size (fun k_ => k_ ≠ gb291 ∧ k_ ≠ gb308) (.slice (some ad300) t293.length co14) t293) ∧ Aside0 (Kd.V k36 36 w' w.heap.size (fun k_ => k_ ≠ gb291 ∧ k_ ≠ gb308) (.slice Ao16 t296.length co16) t296) ∧ Aside0 (w'.heap[gb291]? = some (.cells #[(.slice (some ad300) t293.length co14), (.slice Ao16 t296.length co16)] 29 (0, 0))) ∧ Aside0 (w'.heap[gb308]? = some (.cells #[.int .i64 x309000_2, .int .i64 x309001_2, .int .i64 x309002_2, .int .i64 x309003_2, .int .i64 x309004_2, .int .i64 x309005_2, .int .i64 x309006_2] 42 (0, 0))) ∧ Aside0 (Below w.heap.size w w'))
       case atStart => exact ⟨(x8_8), (0), (t301), (t302), (t303), (t304), (t305), (t306), (t307), (by first | rfl | (simp; done) | (simp [*]; done)), (by first | rfl | (simp; done) | (simp [*]; done)), H', ⟨Nat.le_refl _⟩, ⟨by (with_reducible repeat (first | apply Kd.V_alloc | apply Kd.V_drewN | apply Kd.V_drew)); exact Kd.V_mono (Kd.V_far (p := ⟨gb308, 6, none⟩) (Kd.V_far (p := ⟨gb308, 5, none⟩) (Kd.V_far (p := ⟨gb308, 4, none⟩) (Kd.V_far (p := ⟨gb308, 3, none⟩) (Kd.V_far (p := ⟨gb308, 2, none⟩) (Kd.V_far (p := ⟨gb308, 1, none⟩) (Kd.V_far (p := ⟨gb308, 0, none⟩) (Kd.V_mono HO_292000.out (fun k_ hk => (⟨hk, hk.2⟩ : _ ∧ k_ ≠ gb308))) (fun _ hk => hk.2) (.int .i64 t301)) (fun _ hk => hk.2) (.int .i64 t302)) (fun _ hk => hk.2) (.int .i64 t303)) (fun _ hk => hk.2) (.int .i64 t304)) (fun _ hk => hk.2) (.int .i64 t305)) (fun _ hk => hk.2) (.int .i64 t306)) (fun _ hk => hk.2) (.int .i64 t307)) (fun _ hk => ⟨hk.1.1, hk.1.2⟩)⟩, ⟨by (with_reducible repeat (first | apply Kd.V_alloc | apply Kd.V_drewN | apply Kd.V_drew)); exact Kd.V_mono (Kd.V_far (p := ⟨gb308, 6, none⟩) (Kd.V_far (p := ⟨gb308, 5, none⟩) (Kd.V_far (p := ⟨gb308, 4, none⟩) (Kd.V_far (p := ⟨gb308, 3, none⟩) (Kd.V_far (p := ⟨gb308, 2, none⟩) (Kd.V_far (p := ⟨gb308, 1, none⟩) (Kd.V_far (p := ⟨gb308, 0, none⟩) (Kd.V_mono HO_292001.out (fun k_ hk => (⟨hk, hk.2⟩ : _ ∧ k_ ≠ gb308))) (fun _ hk => hk.2) (.int .i64 t301)) (fun _ hk => hk.2) (.int .i64 t302)) (fun _ hk => hk.2) (.int .i64 t303)) (fun _ hk => hk.2) (.int .i64 t304)) (fun _ hk => hk.2) (.int .i64 t305)) (fun _ hk => hk.2) (.int .i64 t306)) (fun _ hk => hk.2) (.int .i64 t307)) (fun _ hk => ⟨hk.1.1, hk.1.2⟩)⟩, ⟨by (with_reducible repeat (first | refine blk_drewN ?_ _ | refine blk_drew ?_ | refine blk_alloc ?_ _)); refine blk_far ?_ NB291_308.out _; (with_reducible repeat (first | refine blk_drewN ?_ _ | refine blk_drew ?_ | refine blk_alloc ?_ _)); refine blk_far ?_ NB291_308.out _; (with_reducible repeat (first | refine blk_drewN ?_ _ | refine blk_drew ?_ | refine blk_alloc ?_ _)); refine blk_far ?_ NB291_308.out _; (with_reducible repeat (first | refine blk_drewN ?_ _ | refine blk_drew ?_ | refine blk_alloc ?_ _)); refine blk_far ?_ NB291_308.out _; (with_reducible repeat (first | refine blk_drewN ?_ _ | refine blk_drew ?_ | refine blk_alloc ?_ _)); refine blk_far ?_ NB291_308.out _; (with_reducible repeat (first | refine blk_drewN ?_ _ | refine blk_drew ?_ | refine blk_alloc ?_ _)); refine blk_far ?_ NB291_308.out _; (with_reducible repeat (first | refine blk_drewN ?_ _ | refine blk_drew ?_ | refine blk_alloc ?_ _)); refine blk_far ?_ NB291_308.out _; (with_reducible repeat (first | refine blk_drewN ?_ _ | refine blk_drew ?_ | refine blk_alloc ?_ _)); exact BK291.out⟩, ⟨by (with_reducible repeat (first | refine blk_drewN ?_ _ | refine blk_drew ?_ | refine blk_alloc ?_ _)); refine blk_put (cs := #[.int .i64 t301, .int .i64 t302, .int .i64 t303, .int .i64 t304, .int .i64 t305, .int .i64 t306, .int .i64 0]) ?_ 6 _ rfl; (with_reducible repeat (first | refine blk_drewN ?_ _ | refine blk_drew ?_ | refine blk_alloc ?_ _)); refine blk_put (cs := #[.int .i64 t301, .int .i64 t302, .int .i64 t303, .int .i64 t304, .int .i64 t305, .int .i64 0, .int .i64 0]) ?_ 5 _ rfl; (with_reducible repeat (first | refine blk_drewN ?_ _ | refine blk_drew ?_ | refine blk_alloc ?_ _)); refine blk_put (cs := #[.int .i64 t301, .int .i64 t302, .int .i64 t303, .int .i64 t304, .int .i64 0, .int .i64 0, .int .i64 0]) ?_ 4 _ rfl; (with_reducible repeat (first | refine blk_drewN ?_ _ | refine blk_drew ?_ | refine blk_alloc ?_ _)); refine blk_put (cs := #[.int .i64 t301, .int .i64 t302, .int .i64 t303, .int .i64 0, .int .i64 0, .int .i64 0, .int .i64 0]) ?_ 3 _ rfl; (with_reducible repeat (first | refine blk_drewN ?_ _ | refine blk_drew ?_ | refine blk_alloc ?_ _)); refine blk_put (cs := #[.int .i64 t301, .int .i64 t302, .int .i64 0, .int .i64 0, .int .i64 0, .int .i64 0, .int .i64 0]) ?_ 2 _ rfl; (with_reducible repeat (first | refine blk_drewN ?_ _ | refine blk_drew ?_ | refine blk_alloc ?_ _)); refine blk_put (cs := #[.int .i64 t301, .int .i64 0, .int .i64 0, .int .i64 0, .int .i64 0, .int .i64 0, .int .i64 0]) ?_ 1 _ rfl; (with_reducible repeat (first | refine blk_drewN ?_ _ | refine blk_drew ?_ | refine blk_alloc ?_ _)); refine blk_put (cs := #[.int .i64 0, .int .i64 0, .int .i64 0, .int .i64 0, .int .i64 0, .int .i64 0, .int .i64 0]) ?_ 0 _ rfl; (with_reducible repeat (first | refine blk_drewN ?_ _ | refine blk_drew ?_ | refine blk_alloc ?_ _)); exact BK308.out⟩, ⟨by repeat (first | (with_reducible first | exact HB.out | apply below_alloc | apply pw_below_drewN | apply below_drew1 | refine below_set ?_ GE291.out | refine below_set ?_ GE308.out) | exact HB.out)⟩⟩
       case round =>
        clear H'
        try clear c1
        try clear c2
        try clear p2
        try clear p3
        try clear q3
        try clear hx3
        try clear p6
        try clear c7
        try clear c7b0
        try clear c7b1
        try clear c8
        try clear c8b0
        try clear c8b1
        try clear c8b2
        try clear c9
        try clear c12
        try clear c13
        try clear c16
        try clear c19
        try clear c19b0
        try clear c20
        try clear c20b0
        try clear c21
        try clear c21b0
        try clear c26
        try clear hcz12_0
        try clear hcz12_1
        try clear hcz15_0
        try clear hcz15_1
        try clear hcz18_0
        try clear hcz18_1
        try clear hcz23_0
        try clear hcz23_1
        try clear hcz27_0
        try clear hcz27_1
        try clear hcz27_2
        try clear hcz27_3
        try clear hcz27_4
        try clear hcz27_5
        try clear hcz27_6
        try clear hfz12_0
        try clear hfz12_1
        try clear hfz15_0
        try clear hfz15_1
        try clear hfz18_0
        try clear hfz18_1
        try clear hfz23_0
        try clear hfz23_1
        try clear hfz27_0
        try clear hfz27_1
        try clear hfz27_2
        try clear hfz27_3
        try clear hfz27_4
        try clear hfz27_5
        try clear hfz27_6
        try clear hx300_0
        try clear hx300_1
        try clear hx300_2
        try clear hx300_3
        try clear p2
        try clear p300
        try clear p6
        try clear q300
        obtain ⟨x9_2, x11_2, x309000_2, x309001_2, x309002_2, x309003_2, x309004_2, x309005_2, x309006_2, rfl, rfl, HA, HK2, HO_292000, HO_292001, BK291, BK308, HB⟩ := hrel
        cases gk with
        | zero => exact absurd HA.out (by simp [meanderlaw09_ValidRound_Rnd.l0])
        | succ k2 =>
         have H := HA.out
         clear HA
         simp only [meanderlaw09_ValidRound_Rnd.l0] at H
         have HC28 := Aside0.mk H
         clear H
         go_upto_region 11 with (fail)
         go_cut [48] (fun v48 wc => ∃ (kq : Nat) (x48_27 : Bool), v48 = .bool x48_27 ∧ Aside0 (meanderlaw09_ValidRound_Rnd.j2 kq l2 t292 x8_8 x9_2 x11_2 x48_27 t293 t296 x309000_2 x309001_2 x309002_2 x309003_2 x309004_2 x309005_2 x309006_2 = some r) ∧ Aside0 (kq ≤ k2) ∧ Aside0 (Kd.V k23 23 wc w.heap.size (fun k_ => k_ ≠ gb291 ∧ k_ ≠ gb308) (.slice (some ad300) t293.length co14) t293) ∧ Aside0 (Kd.V k36 36 wc w.heap.size (fun k_ => k_ ≠ gb291 ∧ k_ ≠ gb308) (.slice Ao16 t296.length co16) t296) ∧ Aside0 (wc.heap[gb291]? = some (.cells #[(.slice (some ad300) t293.length co14), (.slice Ao16 t296.length co16)] 29 (0, 0))) ∧ Aside0 (wc.heap[gb308]? = some (.cells #[.int .i64 x309000_2, .int .i64 x309001_2, .int .i64 x309002_2, .int .i64 x309003_2, .int .i64 x309004_2, .int .i64 x309005_2, .int .i64 x309006_2] 42 (0, 0))) ∧ Aside0 (Below w.heap.size w wc))
         case first =>
          have H := HC28.out
          clear HC28
          by_cases c29 : x11_2 < (l2.length : Int)
          ·rw [if_pos c29] at H
           have c29b0 : decide (x11_2 < (l2.length : Int)) = true := decide_eq_true c29
           clear c29
           (first | rw [c29b0] | (simp only [i64_w, i32_w]; rw [c29b0]) | skip)
           have H' := Aside0.mk H
           clear H
           go_wp2
           go_meet
           case rel => exact ⟨_, (decide (x11_2 < 30)), (by first | rfl | (simp; done) | (simp [*]; done)), H', ⟨by have := HJ8.out; have := HK2.out; first | omega | exact Nat.le_refl _⟩, ⟨by (with_reducible repeat (first | apply Kd.V_alloc | apply Kd.V_drewN | apply Kd.V_drew)); exact HO_292000.out⟩, ⟨by (with_reducible repeat (first | apply Kd.V_alloc | apply Kd.V_drewN | apply Kd.V_drew)); exact HO_292001.out⟩, ⟨by (with_reducible repeat (first | refine blk_drewN ?_ _ | refine blk_drew ?_ | refine blk_alloc ?_ _)); exact BK291.out⟩, ⟨by (with_reducible repeat (first | refine blk_drewN ?_ _ | refine blk_drew ?_ | refine blk_alloc ?_ _)); exact BK308.out⟩, ⟨by repeat (first | (with_reducible first | exact HB.out | apply below_alloc | apply pw_below_drewN | apply below_drew1 | refine below_set ?_ GE291.out | refine below_set ?_ GE308.out) | exact HB.out)⟩⟩
          ·rw [if_neg c29] at H
           have c29b0 : decide (x11_2 < (l2.length : Int)) = false := decide_eq_false c29
           clear c29
           (first | rw [c29b0] | (simp only [i64_w, i32_w]; rw [c29b0]) | skip)
           have H' := Aside0.mk H
           clear H
           go_wp2
           go_meet
           case rel => exact ⟨_, (false), (by first | rfl | (simp; done) | (simp [*]; done)), H', ⟨by have := HJ8.out; have := HK2.out; first | omega | exact Nat.le_refl _⟩, ⟨by (with_reducible repeat (first | apply Kd.V_alloc | apply Kd.V_drewN | apply Kd.V_drew)); exact HO_292000.out⟩, ⟨by (with_reducible repeat (first | apply Kd.V_alloc | apply Kd.V_drewN | apply Kd.V_drew)); exact HO_292001.out⟩, ⟨by (with_reducible repeat (first | refine blk_drewN ?_ _ | refine blk_drew ?_ | refine blk_alloc ?_ _)); exact BK291.out⟩, ⟨by (with_reducible repeat (first | refine blk_drewN ?_ _ | refine blk_drew ?_ | refine blk_alloc ?_ _)); exact BK308.out⟩, ⟨by repeat (first | (with_reducible first | exact HB.out | apply below_alloc | apply pw_below_drewN | apply below_drew1 | refine below_set ?_ GE291.out | refine below_set ?_ GE308.out) | exact HB.out)⟩⟩
         case rest =>
          clear HC28
          try clear c1
          try clear c2
          try clear p2
          try clear p3
          try clear q3
          try clear hx3
          try clear p6
          try clear c7
          try clear c7b0
          try clear c7b1
          try clear c8
          try clear c8b0
          try clear c8b1
          try clear c8b2
          try clear c9
          try clear c12
          try clear c13
          try clear c16
          try clear c19
          try clear c19b0
          try clear c20
          try clear c20b0
          try clear c21
          try clear c21b0
          try clear c26
          try clear c29
          try clear c29b0
          try clear hcz12_0
          try clear hcz12_1
          try clear hcz15_0
          try clear hcz15_1
          try clear hcz18_0
          try clear hcz18_1
          try clear hcz23_0
          try clear hcz23_1
          try clear hcz27_0
          try clear hcz27_1
          try clear hcz27_2
          try clear hcz27_3
          try clear hcz27_4
          try clear hcz27_5
          try clear hcz27_6
          try clear hfz12_0
          try clear hfz12_1
          try clear hfz15_0
          try clear hfz15_1
          try clear hfz18_0
          try clear hfz18_1
          try clear hfz23_0
          try clear hfz23_1
          try clear hfz27_0
          try clear hfz27_1
          try clear hfz27_2
          try clear hfz27_3
          try clear hfz27_4
          try clear hfz27_5
          try clear hfz27_6
          try clear hx300_0
          try clear hx300_1
          try clear hx300_2
          try clear hx300_3
          try clear p2
          try clear p3
          try clear p300
          try clear p6
          try clear q3
          try clear q300
          obtain ⟨kq, x48_27, rfl, HA, HJ27, HO_292000, HO_292001, BK291, BK308, HB⟩ := hcut
          cases kq with
          | zero => exact absurd HA.out (by simp [meanderlaw09_ValidRound_Rnd.j2])
          | succ kj27 =>
           have H := HA.out
           clear HA
           simp only [meanderlaw09_ValidRound_Rnd.j2] at H
           by_cases c30 : x48_27 = true
           ·subst c30
            have H1 : ((graph_Next.f kj27 t293 t296 x9_2).bind fun t309 => (if (t309.length : Int) = 0 then (some t292) else (if 0 ≤ x11_2 then (if x11_2 < (l2.length : Int) then (if (Int.tmod (rd l2 x11_2) (t309.length : Int)) < 0 then (meanderlaw09_ValidRound_Rnd.j3 kj27 l2 t292 x8_8 x11_2 t309 (wrap64 (-(Int.tmod (rd l2 x11_2) (t309.length : Int)))) t293 t296 x309000_2 x309001_2 x309002_2 x309003_2 x309004_2 x309005_2 x309006_2) else (meanderlaw09_ValidRound_Rnd.j3 kj27 l2 t292 x8_8 x11_2 t309 (Int.tmod (rd l2 x11_2) (t309.length : Int)) t293 t296 x309000_2 x309001_2 x309002_2 x309003_2 x309004_2 x309005_2 x309006_2)) else (none)) else (none)))) = some r := by rw [if_pos rfl] at H; exact H
            clear H
            have H := H1
            clear H1
            replace H := Option.bind_eq_some_iff.mp H
            obtain ⟨t309, A310, H⟩ := H
            replace H : (if (t309.length : Int) = 0 then (some t292) else (if 0 ≤ x11_2 then (if x11_2 < (l2.length : Int) then (if (Int.tmod (rd l2 x11_2) (t309.length : Int)) < 0 then (meanderlaw09_ValidRound_Rnd.j3 kj27 l2 t292 x8_8 x11_2 t309 (wrap64 (-(Int.tmod (rd l2 x11_2) (t309.length : Int)))) t293 t296 x309000_2 x309001_2 x309002_2 x309003_2 x309004_2 x309005_2 x309006_2) else (meanderlaw09_ValidRound_Rnd.j3 kj27 l2 t292 x8_8 x11_2 t309 (Int.tmod (rd l2 x11_2) (t309.length : Int)) t293 t296 x309000_2 x309001_2 x309002_2 x309003_2 x309004_2 x309005_2 x309006_2)) else (none)) else (none))) = some r := H
            have A31 := Aside0.mk A310
            clear A310
            by_cases c32 : (t309.length : Int) = 0
            ·rw [if_pos c32] at H
             have c32b0 : ((t309.length : Int) == 0) = true := beq_iff_eq.mpr c32
             have c32b1 : ((t309.length : Int) != 0) = false := bne_eq_false_iff_eq.mpr c32
             clear c32
             obtain rfl := Option.some.inj H
             have hnb33 := NB291_308.out
             have hnc33 := NB308_291.out
             have hcz34_0 : wc.cell? ⟨gb291, 0, none⟩ = some (.slice (some ad300) t293.length co14) := (blk_cell BK291.out 0).trans rfl
             have hcz34_1 : wc.cell? ⟨gb291, 1, none⟩ = some (.slice Ao16 t296.length co16) := (blk_cell BK291.out 1).trans rfl
             have hfz34_0 := blk_frozen BK291.out 0
             have hfz34_1 := blk_frozen BK291.out 1
             go_wp2_with (first | ((with_reducible refine gate_callee (f := 17) rfl ?_); refine goesL_ (some 53) rfl rfl Try.func17 (by kernel_rfl) rfl #[.agg #[.slice (some ad300) t293.length co14, .slice Ao16 t296.length co16], .int .i64 x9_2] rfl (by (try simp only [List.map_toArray, List.map_cons, List.map_nil]); first | done | rfl | (simp only [List.length_drop, List.length_take]; rfl)) ?_; (with_reducible refine (graph_Next.calls kj27 _ _ t293 _ _ t296 x9_2 t309 _ ?side1 ?side2 ?side3 ?side4 A31.out).mono ?_); (case side1 => repeat (first | exact (Kd.V_reads' HO_292000.out).2.2 | (with_reducible refine Kd.C_alloc ?_ _) | (with_reducible refine Kd.C_drewN ?_ _) | (with_reducible refine Kd.C_drew ?_))); (case side2 => exact (Kd.V_reads' HO_292000.out).2.1); (case side3 => repeat (first | exact (Kd.V_reads' HO_292001.out).2.2 | (with_reducible refine Kd.C_alloc ?_ _) | (with_reducible refine Kd.C_drewN ?_ _) | (with_reducible refine Kd.C_drew ?_))); (case side4 => exact (Kd.V_reads' HO_292001.out).2.1); rintro e w35 ⟨v310, rfl, ho0, hb⟩; refine ⟨_, rfl, ?_⟩; have n0_ := Aside0.mk (Kd.V_elder' (by (with_reducible repeat (first | apply Kd.V_alloc | apply Kd.V_drewN | apply Kd.V_drew)); exact HO_292000.out) (Kd.R_base ho0) hb); have n1_ := Aside0.mk (Kd.V_elder' (by (with_reducible repeat (first | apply Kd.V_alloc | apply Kd.V_drewN | apply Kd.V_drew)); exact HO_292001.out) (Kd.R_base ho0) hb); have n2_ := Aside0.mk (Kd.R_lower ho0 (below_size (by repeat (first | (with_reducible first | exact HB.out | apply below_alloc | apply pw_below_drewN | apply below_drew1 | refine below_set ?_ GE291.out | refine below_set ?_ GE308.out) | exact HB.out)))); have n3_ := Aside0.mk (blk_below (g := gb291) (o := .cells #[.slice (some ad300) t293.length co14, .slice Ao16 t296.length co16] 29 (0, 0)) (by (with_reducible repeat (first | refine blk_drewN ?_ _ | refine blk_drew ?_ | refine blk_alloc ?_ _)); exact BK291.out) hb); have n4_ := Aside0.mk (blk_below (g := gb308) (o := .cells #[.int .i64 x309000_2, .int .i64 x309001_2, .int .i64 x309002_2, .int .i64 x309003_2, .int .i64 x309004_2, .int .i64 x309005_2, .int .i64 x309006_2] 42 (0, 0)) (by (with_reducible repeat (first | refine blk_drewN ?_ _ | refine blk_drew ?_ | refine blk_alloc ?_ _)); exact BK308.out) hb); have n5_ := Aside0.mk (below_step (by repeat (first | (with_reducible first | exact HB.out | apply below_alloc | apply pw_below_drewN | apply below_drew1 | refine below_set ?_ GE291.out | refine below_set ?_ GE308.out) | exact HB.out)) hb); clear HO_292000; clear HO_292001; clear BK291; clear BK308; clear HB; have HO_292000 := n0_; have HO_292001 := n1_; have HO311 := n2_; have BK291 := n3_; have BK308 := n4_; have HB := n5_; clear n0_ n1_ n2_ n3_ n4_ n5_; (try clear hb); (try clear hb2); (try clear hk); (try clear hi); (try clear ho0); obtain ⟨Ao36, co36, eo36⟩ := Kd.R_slice HO311.out; subst eo36))
             go_ret
             exact ⟨by first | rfl | (simp [errW_none, errW_some] <;> rfl) | (simp [*, errW_none, errW_some] <;> rfl), by repeat (first | (with_reducible first | exact HB.out | apply below_alloc | apply pw_below_drewN | apply below_drew1 | refine below_set ?_ GE291.out | refine below_set ?_ GE308.out) | exact HB.out)⟩
            ·rw [if_neg c32] at H
             have c32b0 : ((t309.length : Int) == 0) = false := beq_eq_false_iff_ne.mpr c32
             have c32b1 : ((t309.length : Int) != 0) = true := bne_iff_ne.mpr c32
             have c32b2 : ¬ (t309 = []) := fun h_ => c32 (by rw [h_]; rfl)
             by_cases c37 : 0 ≤ x11_2
             ·rw [if_pos c37] at H
              have c37b0 : decide (0 ≤ x11_2) = true := decide_eq_true c37
              clear c37
              by_cases c38 : x11_2 < (l2.length : Int)
              ·rw [if_pos c38] at H
               have c38b0 : decide (x11_2 < (l2.length : Int)) = true := decide_eq_true c38
               clear c38
               have HC39 := Aside0.mk H
               clear H
               have hnb40 := NB291_308.out
               have hnc40 := NB308_291.out
               have hcz41_0 : wc.cell? ⟨gb291, 0, none⟩ = some (.slice (some ad300) t293.length co14) := (blk_cell BK291.out 0).trans rfl
               have hcz41_1 : wc.cell? ⟨gb291, 1, none⟩ = some (.slice Ao16 t296.length co16) := (blk_cell BK291.out 1).trans rfl
               have hfz41_0 := blk_frozen BK291.out 0
               have hfz41_1 := blk_frozen BK291.out 1
               go_upto_if 66 with (first | ((with_reducible refine gate_callee (f := 17) rfl ?_); refine goesL_ (some 53) rfl rfl Try.func17 (by kernel_rfl) rfl #[.agg #[.slice (some ad300) t293.length co14, .slice Ao16 t296.length co16], .int .i64 x9_2] rfl (by (try simp only [List.map_toArray, List.map_cons, List.map_nil]); first | done | rfl | (simp only [List.length_drop, List.length_take]; rfl)) ?_; (with_reducible refine (graph_Next.calls kj27 _ _ t293 _ _ t296 x9_2 t309 _ ?side1 ?side2 ?side3 ?side4 A31.out).mono ?_); (case side1 => repeat (first | exact (Kd.V_reads' HO_292000.out).2.2 | (with_reducible refine Kd.C_alloc ?_ _) | (with_reducible refine Kd.C_drewN ?_ _) | (with_reducible refine Kd.C_drew ?_))); (case side2 => exact (Kd.V_reads' HO_292000.out).2.1); (case side3 => repeat (first | exact (Kd.V_reads' HO_292001.out).2.2 | (with_reducible refine Kd.C_alloc ?_ _) | (with_reducible refine Kd.C_drewN ?_ _) | (with_reducible refine Kd.C_drew ?_))); (case side4 => exact (Kd.V_reads' HO_292001.out).2.1); rintro e w42 ⟨v310, rfl, ho0, hb⟩; refine ⟨_, rfl, ?_⟩; have n0_ := Aside0.mk (Kd.V_elder' (by (with_reducible repeat (first | apply Kd.V_alloc | apply Kd.V_drewN | apply Kd.V_drew)); exact HO_292000.out) (Kd.R_base ho0) hb); have n1_ := Aside0.mk (Kd.V_elder' (by (with_reducible repeat (first | apply Kd.V_alloc | apply Kd.V_drewN | apply Kd.V_drew)); exact HO_292001.out) (Kd.R_base ho0) hb); have n2_ := Aside0.mk (Kd.R_lower ho0 (below_size (by repeat (first | (with_reducible first | exact HB.out | apply below_alloc | apply pw_below_drewN | apply below_drew1 | refine below_set ?_ GE291.out | refine below_set ?_ GE308.out) | exact HB.out)))); have n3_ := Aside0.mk (blk_below (g := gb291) (o := .cells #[.slice (some ad300) t293.length co14, .slice Ao16 t296.length co16] 29 (0, 0)) (by (with_reducible repeat (first | refine blk_drewN ?_ _ | refine blk_drew ?_ | refine blk_alloc ?_ _)); exact BK291.out) hb); have n4_ := Aside0.mk (blk_below (g := gb308) (o := .cells #[.int .i64 x309000_2, .int .i64 x309001_2, .int .i64 x309002_2, .int .i64 x309003_2, .int .i64 x309004_2, .int .i64 x309005_2, .int .i64 x309006_2] 42 (0, 0)) (by (with_reducible repeat (first | refine blk_drewN ?_ _ | refine blk_drew ?_ | refine blk_alloc ?_ _)); exact BK308.out) hb); have n5_ := Aside0.mk (below_step (by repeat (first | (with_reducible first | exact HB.out | apply below_alloc | apply pw_below_drewN | apply below_drew1 | refine below_set ?_ GE291.out | refine below_set ?_ GE308.out) | exact HB.out)) hb); clear HO_292000; clear HO_292001; clear BK291; clear BK308; clear HB; have HO_292000 := n0_; have HO_292001 := n1_; have HO311 := n2_; have BK291 := n3_; have BK308 := n4_; have HB := n5_; clear n0_ n1_ n2_ n3_ n4_ n5_; (try clear hb); (try clear hb2); (try clear hk); (try clear hi); (try clear ho0); obtain ⟨Ao43, co43, eo43⟩ := Kd.R_slice HO311.out; subst eo43; have p312 : 0 ≤ (x11_2 : Int) := of_decide_eq_true (by first | (with_reducible assumption) | assumption); have q312 : x11_2 < (l2.length : Int) := of_decide_eq_true (by first | (with_reducible assumption) | assumption); obtain ⟨ad312, e312, hx312_0⟩ := Kd.at_int HR2.out x11_2 p312 q312; cases e312; replace hx312_0 := (HB.out.cell (World.block_lt_of_cell? w _ hx312_0)).trans hx312_0; replace p312 := eq_true p312; replace q312 := eq_true q312))
               (try simp only [Act.put, List.setIfInBounds_toArray, List.set_cons_zero, List.set_cons_succ])
               go_cut [13] (fun v13 wc => ∃ (kq : Nat) (x13_38 : Int), v13 = .int .i64 x13_38 ∧ Aside0 (meanderlaw09_ValidRound_Rnd.j3 kq l2 t292 x8_8 x11_2 t309 x13_38 t293 t296 x309000_2 x309001_2 x309002_2 x309003_2 x309004_2 x309005_2 x309006_2 = some r) ∧ Aside0 (kq ≤ kj27) ∧ Aside0 (Kd.R k47 47 wc w.heap.size (fun _ => True) (.slice Ao43 t309.length co43) t309) ∧ Aside0 (Kd.V k23 23 wc w.heap.size (fun k_ => some k_ ≠ ((.slice Ao43 t309.length co43) : Value).ownBlock ∧ k_ ≠ gb291 ∧ k_ ≠ gb308) (.slice (some ad300) t293.length co14) t293) ∧ Aside0 (Kd.V k36 36 wc w.heap.size (fun k_ => some k_ ≠ ((.slice Ao43 t309.length co43) : Value).ownBlock ∧ k_ ≠ gb291 ∧ k_ ≠ gb308) (.slice Ao16 t296.length co16) t296) ∧ Aside0 (wc.heap[gb291]? = some (.cells #[(.slice (some ad300) t293.length co14), (.slice Ao16 t296.length co16)] 29 (0, 0))) ∧ Aside0 (wc.heap[gb308]? = some (.cells #[.int .i64 x309000_2, .int .i64 x309001_2, .int .i64 x309002_2, .int .i64 x309003_2, .int .i64 x309004_2, .int .i64 x309005_2, .int .i64 x309006_2] 42 (0, 0))) ∧ Aside0 (Below w.heap.size w wc))
               case first =>
                have H := HC39.out
                clear HC39
                by_cases c44 : (Int.tmod (rd l2 x11_2) (t309.length : Int)) < 0
                ·rw [if_pos c44] at H
                 have c44b0 : decide ((Int.tmod (rd l2 x11_2) (t309.length : Int)) < 0) = true := decide_eq_true c44
                 clear c44
                 (first | rw [c44b0] | (simp only [i64_w, i32_w]; rw [c44b0]) | skip)
                 have H' := Aside0.mk H
                 clear H
                 go_wp2
                 go_meet
                 case rel => exact ⟨_, (wrap64 (-(Int.tmod (rd l2 x11_2) (t309.length : Int)))), (by first | rfl | (simp; done) | (simp [*]; done)), H', ⟨by have := HJ8.out; have := HK2.out; have := HJ27.out; first | omega | exact Nat.le_refl _⟩, ⟨by (with_reducible repeat (first | apply Kd.R_alloc | apply Kd.R_drewN | apply Kd.R_drew)); exact HO311.out⟩, ⟨by (with_reducible repeat (first | apply Kd.V_alloc | apply Kd.V_drewN | apply Kd.V_drew)); exact Kd.V_mono HO_292000.out (fun _ hk => ⟨hk.2, ⟨hk.1.1, hk.1.2⟩⟩)⟩, ⟨by (with_reducible repeat (first | apply Kd.V_alloc | apply Kd.V_drewN | apply Kd.V_drew)); exact Kd.V_mono HO_292001.out (fun _ hk => ⟨hk.2, ⟨hk.1.1, hk.1.2⟩⟩)⟩, ⟨by (with_reducible repeat (first | refine blk_drewN ?_ _ | refine blk_drew ?_ | refine blk_alloc ?_ _)); exact BK291.out⟩, ⟨by (with_reducible repeat (first | refine blk_drewN ?_ _ | refine blk_drew ?_ | refine blk_alloc ?_ _)); exact BK308.out⟩, ⟨by repeat (first | (with_reducible first | exact HB.out | apply below_alloc | apply pw_below_drewN | apply below_drew1 | refine below_set ?_ GE291.out | refine below_set ?_ GE308.out) | exact HB.out)⟩⟩
                ·rw [if_neg c44] at H
                 have c44b0 : decide ((Int.tmod (rd l2 x11_2) (t309.length : Int)) < 0) = false := decide_eq_false c44
                 clear c44
                 (first | rw [c44b0] | (simp only [i64_w, i32_w]; rw [c44b0]) | skip)
                 have H' := Aside0.mk H
                 clear H
                 go_wp2
                 go_meet
                 case rel => exact ⟨_, (Int.tmod (rd l2 x11_2) (t309.length : Int)), (by first | rfl | (simp; done) | (simp [*]; done)), H', ⟨by have := HJ8.out; have := HK2.out; have := HJ27.out; first | omega | exact Nat.le_refl _⟩, ⟨by (with_reducible repeat (first | apply Kd.R_alloc | apply Kd.R_drewN | apply Kd.R_drew)); exact HO311.out⟩, ⟨by (with_reducible repeat (first | apply Kd.V_alloc | apply Kd.V_drewN | apply Kd.V_drew)); exact Kd.V_mono HO_292000.out (fun _ hk => ⟨hk.2, ⟨hk.1.1, hk.1.2⟩⟩)⟩, ⟨by (with_reducible repeat (first | apply Kd.V_alloc | apply Kd.V_drewN | apply Kd.V_drew)); exact Kd.V_mono HO_292001.out (fun _ hk => ⟨hk.2, ⟨hk.1.1, hk.1.2⟩⟩)⟩, ⟨by (with_reducible repeat (first | refine blk_drewN ?_ _ | refine blk_drew ?_ | refine blk_alloc ?_ _)); exact BK291.out⟩, ⟨by (with_reducible repeat (first | refine blk_drewN ?_ _ | refine blk_drew ?_ | refine blk_alloc ?_ _)); exact BK308.out⟩, ⟨by repeat (first | (with_reducible first | exact HB.out | apply below_alloc | apply pw_below_drewN | apply below_drew1 | refine below_set ?_ GE291.out | refine below_set ?_ GE308.out) | exact HB.out)⟩⟩
               case rest =>
                clear HC39
                try clear c1
                try clear c2
                try clear p2
                try clear c3
                try clear p3
                try clear q3
                try clear hx3
                try clear c4
                try clear p6
                try clear c7
                try clear c7b0
                try clear c7b1
                try clear c8
                try clear c8b0
                try clear c8b1
                try clear c8b2
                try clear c9
                try clear c12
                try clear c13
                try clear c16
                try clear c17
                try clear c19
                try clear c19b0
                try clear c20
                try clear c20b0
                try clear c21
                try clear c21b0
                try clear c26
                try clear c29
                try clear c29b0
                try clear c30
                try clear p30
                try clear q30
                try clear hx30
                try clear p31
                try clear q31
                try clear hx31
                try clear c32
                try clear c32b0
                try clear c32b1
                try clear c32b2
                try clear c33
                try clear c37
                try clear c37b0
                try clear c38
                try clear c38b0
                try clear c40
                try clear c44
                try clear c44b0
                try clear hcz12_0
                try clear hcz12_1
                try clear hcz15_0
                try clear hcz15_1
                try clear hcz18_0
                try clear hcz18_1
                try clear hcz23_0
                try clear hcz23_1
                try clear hcz27_0
                try clear hcz27_1
                try clear hcz27_2
                try clear hcz27_3
                try clear hcz27_4
                try clear hcz27_5
                try clear hcz27_6
                try clear hcz34_0
                try clear hcz34_1
                try clear hcz41_0
                try clear hcz41_1
                try clear hfz12_0
                try clear hfz12_1
                try clear hfz15_0
                try clear hfz15_1
                try clear hfz18_0
                try clear hfz18_1
                try clear hfz23_0
                try clear hfz23_1
                try clear hfz27_0
                try clear hfz27_1
                try clear hfz27_2
                try clear hfz27_3
                try clear hfz27_4
                try clear hfz27_5
                try clear hfz27_6
                try clear hfz34_0
                try clear hfz34_1
                try clear hfz41_0
                try clear hfz41_1
                try clear hx300_0
                try clear hx300_1
                try clear hx300_2
                try clear hx300_3
                try clear hx312_0
                try clear p2
                try clear p3
                try clear p300
                try clear p312
                try clear p6
                try clear q3
                try clear q300
                try clear q312
                obtain ⟨kq, x13_38, rfl, HA, HJ38, HO_12, HO_292000, HO_292001, BK291, BK308, HB⟩ := hcut
                cases kq with
                | zero => exact absurd HA.out (by simp [meanderlaw09_ValidRound_Rnd.j3])
                | succ kj38 =>
                 have H := HA.out
                 clear HA
                 simp only [meanderlaw09_ValidRound_Rnd.j3] at H
                 by_cases c45 : 0 ≤ x13_38
                 ·rw [if_pos c45] at H
                  have c45b0 : decide (0 ≤ x13_38) = true := decide_eq_true c45
                  clear c45
                  by_cases c46 : x13_38 < (t309.length : Int)
                  ·rw [if_pos c46] at H
                   have c46b0 : decide (x13_38 < (t309.length : Int)) = true := decide_eq_true c46
                   clear c46
                   by_cases c47 : 0 ≤ ((rd_T47 t309 x13_38).f0)
                   ·rw [if_pos c47] at H
                    have c47b0 : decide (0 ≤ ((rd_T47 t309 x13_38).f0)) = true := decide_eq_true c47
                    clear c47
                    by_cases c48 : ((rd_T47 t309 x13_38).f0) < (t293.length : Int)
                    ·rw [if_pos c48] at H
                     have c48b0 : decide (((rd_T47 t309 x13_38).f0) < (t293.length : Int)) = true := decide_eq_true c48
                     clear c48
                     replace H := Option.bind_eq_some_iff.mp H
                     obtain ⟨t315, A490, H⟩ := H
                     replace H : (if t315 = true then ((graph_Inner.f ((rd_T23 t293 ((rd_T47 t309 x13_38).f0)).f0) ((rd_T23 t293 ((rd_T47 t309 x13_38).f0)).f1) ((rd_T23 t293 ((rd_T47 t309 x13_38).f0)).f2) ((rd_T23 t293 ((rd_T47 t309 x13_38).f0)).f3)).bind fun bt317 => ((meanderref02_Then.f x309000_2 x309001_2 x309002_2 x309003_2 x309004_2 x309005_2 x309006_2 bt317.1 bt317.2.1 bt317.2.2.1 bt317.2.2.2.1 bt317.2.2.2.2.1 bt317.2.2.2.2.2.1 bt317.2.2.2.2.2.2).bind fun bt324 => (if bt324.2.2.2.2.2.2.2 = 0 then (if 0 ≤ x8_8 then (if x8_8 < (t293.length : Int) then ((meanderref02_Same.f ((rd_T23 t293 x8_8).f3)).bind fun bt334 => ((meanderref02_LessEq.f bt324.1 bt324.2.1 bt324.2.2.1 bt324.2.2.2.1 bt324.2.2.2.2.1 bt324.2.2.2.2.2.1 bt324.2.2.2.2.2.2.1 bt334.1 bt334.2.1 bt334.2.2.1 bt334.2.2.2.1 bt334.2.2.2.2.1 bt334.2.2.2.2.2.1 bt334.2.2.2.2.2.2).bind fun t341 => (if ((rd_T47 t309 x13_38).f0) = x8_8 then (if t341 = true then (none) else (meanderlaw09_ValidRound_Rnd.l0 kj38 l2 t292 x8_8 ((rd_T47 t309 x13_38).f0) (wrap64 (x11_2 + 1)) t293 t296 bt324.1 bt324.2.1 bt324.2.2.1 bt324.2.2.2.1 bt324.2.2.2.2.1 bt324.2.2.2.2.2.1 bt324.2.2.2.2.2.2.1)) else (meanderlaw09_ValidRound_Rnd.l0 kj38 l2 t292 x8_8 ((rd_T47 t309 x13_38).f0) (wrap64 (x11_2 + 1)) t293 t296 bt324.1 bt324.2.1 bt324.2.2.1 bt324.2.2.2.1 bt324.2.2.2.2.1 bt324.2.2.2.2.2.1 bt324.2.2.2.2.2.2.1)))) else (none)) else (none)) else (none)))) else (some t292)) = some r := H
                     have A49 := Aside0.mk A490
                     clear A490
                     by_cases c50 : t315 = true
                     ·subst c50
                      have H1 : ((graph_Inner.f ((rd_T23 t293 ((rd_T47 t309 x13_38).f0)).f0) ((rd_T23 t293 ((rd_T47 t309 x13_38).f0)).f1) ((rd_T23 t293 ((rd_T47 t309 x13_38).f0)).f2) ((rd_T23 t293 ((rd_T47 t309 x13_38).f0)).f3)).bind fun bt317 => ((meanderref02_Then.f x309000_2 x309001_2 x309002_2 x309003_2 x309004_2 x309005_2 x309006_2 bt317.1 bt317.2.1 bt317.2.2.1 bt317.2.2.2.1 bt317.2.2.2.2.1 bt317.2.2.2.2.2.1 bt317.2.2.2.2.2.2).bind fun bt324 => (if bt324.2.2.2.2.2.2.2 = 0 then (if 0 ≤ x8_8 then (if x8_8 < (t293.length : Int) then ((meanderref02_Same.f ((rd_T23 t293 x8_8).f3)).bind fun bt334 => ((meanderref02_LessEq.f bt324.1 bt324.2.1 bt324.2.2.1 bt324.2.2.2.1 bt324.2.2.2.2.1 bt324.2.2.2.2.2.1 bt324.2.2.2.2.2.2.1 bt334.1 bt334.2.1 bt334.2.2.1 bt334.2.2.2.1 bt334.2.2.2.2.1 bt334.2.2.2.2.2.1 bt334.2.2.2.2.2.2).bind fun t341 => (if ((rd_T47 t309 x13_38).f0) = x8_8 then (if t341 = true then (none) else (meanderlaw09_ValidRound_Rnd.l0 kj38 l2 t292 x8_8 ((rd_T47 t309 x13_38).f0) (wrap64 (x11_2 + 1)) t293 t296 bt324.1 bt324.2.1 bt324.2.2.1 bt324.2.2.2.1 bt324.2.2.2.2.1 bt324.2.2.2.2.2.1 bt324.2.2.2.2.2.2.1)) else (meanderlaw09_ValidRound_Rnd.l0 kj38 l2 t292 x8_8 ((rd_T47 t309 x13_38).f0) (wrap64 (x11_2 + 1)) t293 t296 bt324.1 bt324.2.1 bt324.2.2.1 bt324.2.2.2.1 bt324.2.2.2.2.1 bt324.2.2.2.2.2.1 bt324.2.2.2.2.2.2.1)))) else (none)) else (none)) else (none)))) = some r := by rw [if_pos rfl] at H; exact H
                      clear H
                      have H := H1
                      clear H1
                      replace H := Option.bind_eq_some_iff.mp H
                      obtain ⟨⟨t317, t318, t319, t320, t321, t322, t323⟩, A510, H⟩ := H
                      replace H : ((meanderref02_Then.f x309000_2 x309001_2 x309002_2 x309003_2 x309004_2 x309005_2 x309006_2 t317 t318 t319 t320 t321 t322 t323).bind fun bt324 => (if bt324.2.2.2.2.2.2.2 = 0 then (if 0 ≤ x8_8 then (if x8_8 < (t293.length : Int) then ((meanderref02_Same.f ((rd_T23 t293 x8_8).f3)).bind fun bt334 => ((meanderref02_LessEq.f bt324.1 bt324.2.1 bt324.2.2.1 bt324.2.2.2.1 bt324.2.2.2.2.1 bt324.2.2.2.2.2.1 bt324.2.2.2.2.2.2.1 bt334.1 bt334.2.1 bt334.2.2.1 bt334.2.2.2.1 bt334.2.2.2.2.1 bt334.2.2.2.2.2.1 bt334.2.2.2.2.2.2).bind fun t341 => (if ((rd_T47 t309 x13_38).f0) = x8_8 then (if t341 = true then (none) else (meanderlaw09_ValidRound_Rnd.l0 kj38 l2 t292 x8_8 ((rd_T47 t309 x13_38).f0) (wrap64 (x11_2 + 1)) t293 t296 bt324.1 bt324.2.1 bt324.2.2.1 bt324.2.2.2.1 bt324.2.2.2.2.1 bt324.2.2.2.2.2.1 bt324.2.2.2.2.2.2.1)) else (meanderlaw09_ValidRound_Rnd.l0 kj38 l2 t292 x8_8 ((rd_T47 t309 x13_38).f0) (wrap64 (x11_2 + 1)) t293 t296 bt324.1 bt324.2.1 bt324.2.2.1 bt324.2.2.2.1 bt324.2.2.2.2.1 bt324.2.2.2.2.2.1 bt324.2.2.2.2.2.2.1)))) else (none)) else (none)) else (none))) = some r := H
                      have A51 := Aside0.mk A510
                      clear A510
                      replace H := Option.bind_eq_some_iff.mp H
                      obtain ⟨⟨t324, t325, t326, t327, t328, t329, t330, t331⟩, A520, H⟩ := H
                      replace H : (if t331 = 0 then (if 0 ≤ x8_8 then (if x8_8 < (t293.length : Int) then ((meanderref02_Same.f ((rd_T23 t293 x8_8).f3)).bind fun bt334 => ((meanderref02_LessEq.f t324 t325 t326 t327 t328 t329 t330 bt334.1 bt334.2.1 bt334.2.2.1 bt334.2.2.2.1 bt334.2.2.2.2.1 bt334.2.2.2.2.2.1 bt334.2.2.2.2.2.2).bind fun t341 => (if ((rd_T47 t309 x13_38).f0) = x8_8 then (if t341 = true then (none) else (meanderlaw09_ValidRound_Rnd.l0 kj38 l2 t292 x8_8 ((rd_T47 t309 x13_38).f0) (wrap64 (x11_2 + 1)) t293 t296 t324 t325 t326 t327 t328 t329 t330)) else (meanderlaw09_ValidRound_Rnd.l0 kj38 l2 t292 x8_8 ((rd_T47 t309 x13_38).f0) (wrap64 (x11_2 + 1)) t293 t296 t324 t325 t326 t327 t328 t329 t330)))) else (none)) else (none)) else (none)) = some r := H
                      have A52 := Aside0.mk A520
                      clear A520
                      by_cases c53 : t331 = 0
                      ·rw [if_pos c53] at H
                       have c53b0 : (t331 == 0) = true := beq_iff_eq.mpr c53
                       have c53b1 : (t331 != 0) = false := bne_eq_false_iff_eq.mpr c53
                       clear c53
                       by_cases c54 : 0 ≤ x8_8
                       ·rw [if_pos c54] at H
                        have c54b0 : decide (0 ≤ x8_8) = true := decide_eq_true c54
                        clear c54
                        by_cases c55 : x8_8 < (t293.length : Int)
                        ·rw [if_pos c55] at H
                         have c55b0 : decide (x8_8 < (t293.length : Int)) = true := decide_eq_true c55
                         clear c55
                         replace H := Option.bind_eq_some_iff.mp H
                         obtain ⟨⟨t334, t335, t336, t337, t338, t339, t340⟩, A560, H⟩ := H
                         replace H : ((meanderref02_LessEq.f t324 t325 t326 t327 t328 t329 t330 t334 t335 t336 t337 t338 t339 t340).bind fun t341 => (if ((rd_T47 t309 x13_38).f0) = x8_8 then (if t341 = true then (none) else (meanderlaw09_ValidRound_Rnd.l0 kj38 l2 t292 x8_8 ((rd_T47 t309 x13_38).f0) (wrap64 (x11_2 + 1)) t293 t296 t324 t325 t326 t327 t328 t329 t330)) else (meanderlaw09_ValidRound_Rnd.l0 kj38 l2 t292 x8_8 ((rd_T47 t309 x13_38).f0) (wrap64 (x11_2 + 1)) t293 t296 t324 t325 t326 t327 t328 t329 t330))) = some r := H
                         have A56 := Aside0.mk A560
                         clear A560
                         replace H := Option.bind_eq_some_iff.mp H
                         obtain ⟨t341, A570, H⟩ := H
                         replace H : (if ((rd_T47 t309 x13_38).f0) = x8_8 then (if t341 = true then (none) else (meanderlaw09_ValidRound_Rnd.l0 kj38 l2 t292 x8_8 ((rd_T47 t309 x13_38).f0) (wrap64 (x11_2 + 1)) t293 t296 t324 t325 t326 t327 t328 t329 t330)) else (meanderlaw09_ValidRound_Rnd.l0 kj38 l2 t292 x8_8 ((rd_T47 t309 x13_38).f0) (wrap64 (x11_2 + 1)) t293 t296 t324 t325 t326 t327 t328 t329 t330)) = some r := H
                         have A57 := Aside0.mk A570
                         clear A570
                         by_cases c58 : ((rd_T47 t309 x13_38).f0) = x8_8
                         case' pos =>
                          rw [if_pos c58] at H
                          have c58b0 : (((rd_T47 t309 x13_38).f0) == x8_8) = true := beq_iff_eq.mpr c58
                          have c58b1 : (((rd_T47 t309 x13_38).f0) != x8_8) = false := bne_eq_false_iff_eq.mpr c58
                          clear c58
                          by_cases c59 : t341 = true
                          case pos =>
                           subst c59
                           have H1 : (none) = some r := by rw [if_pos rfl] at H; exact H
                           clear H
                           have H := H1
                           clear H1
                           exact absurd H (by simp)
                          replace c59 := Bool.eq_false_iff.mpr c59
                          subst c59
                          have H1 : (meanderlaw09_ValidRound_Rnd.l0 kj38 l2 t292 x8_8 ((rd_T47 t309 x13_38).f0) (wrap64 (x11_2 + 1)) t293 t296 t324 t325 t326 t327 t328 t329 t330) = some r := by rw [if_neg (show ¬ (false = true) by decide)] at H; exact H
                          clear H
                          have H := H1
                          clear H1
                          have H' := Aside0.mk H
                          clear H
                         case' neg =>
                          rw [if_neg c58] at H
                          have c58b0 : (((rd_T47 t309 x13_38).f0) == x8_8) = false := beq_eq_false_iff_ne.mpr c58
                          have c58b1 : (((rd_T47 t309 x13_38).f0) != x8_8) = true := bne_iff_ne.mpr c58
                          have H' := Aside0.mk H
                          clear H
                         all_goals
                          have p313 : 0 ≤ (x13_38 : Int) := of_decide_eq_true (by first | (with_reducible assumption) | assumption)
                          have q313 : x13_38 < (t309.length : Int) := of_decide_eq_true (by first | (with_reducible assumption) | assumption)
                          obtain ⟨ad313, e313, hx313_0, hx313_1⟩ := at_T47 (Kd.R_reads' HO_12.out).2.2 x13_38 p313 q313
                          cases e313
                          replace p313 := eq_true p313
                          replace q313 := eq_true q313
                          have hnb60 := NB291_308.out
                          have hnc60 := NB308_291.out
                          have hcz61_0 : wc.cell? ⟨gb291, 0, none⟩ = some (.slice (some ad300) t293.length co14) := (blk_cell BK291.out 0).trans rfl
                          have hcz61_1 : wc.cell? ⟨gb291, 1, none⟩ = some (.slice Ao16 t296.length co16) := (blk_cell BK291.out 1).trans rfl
                          have hfz61_0 := blk_frozen BK291.out 0
                          have hfz61_1 := blk_frozen BK291.out 1
                          have p314 : 0 ≤ (((rd_T47 t309 x13_38).f0) : Int) := of_decide_eq_true (by first | (with_reducible assumption) | assumption)
                          have q314 : ((rd_T47 t309 x13_38).f0) < (t293.length : Int) := of_decide_eq_true (by first | (with_reducible assumption) | assumption)
                          obtain ⟨ad314, e314, hx314_0, hx314_1, hx314_2, hx314_3⟩ := at_T23 (Kd.V_reads' HO_292000.out).2.2 ((rd_T47 t309 x13_38).f0) p314 q314
                          obtain rfl : ad300 = ad314 := (by injection e314)
                          replace p314 := eq_true p314
                          replace q314 := eq_true q314
                          try go_wp2_with (first | ((with_reducible refine gate_callee (f := 15) rfl ?_); refine goesL_ (some 80) rfl rfl Try.func15 (by kernel_rfl) rfl #[.int .i64 ((rd_T23 t293 ((rd_T47 t309 x13_38).f0)).f0)] rfl (by (try simp only [List.map_toArray, List.map_cons, List.map_nil]); first | done | rfl | (simp only [List.length_drop, List.length_take]; rfl)) ?_; (with_reducible refine (graph_HasOut.calls ((rd_T23 t293 ((rd_T47 t309 x13_38).f0)).f0) true _ A49.out).mono ?_); rintro e w' ⟨rfl, ⟨nd, rfl⟩⟩; refine ⟨_, rfl, ?_⟩; (try (rw [drewN_self wc]; generalize hq_ : World.drewN wc _ = wc; have n0_ : Aside0 (Kd.R k47 47 wc w.heap.size (fun _ => True) (.slice (some ad313) t309.length co43) t309) := ⟨by rw [← hq_]; exact (by (with_reducible repeat (first | apply Kd.R_alloc | apply Kd.R_drewN | apply Kd.R_drew)); exact HO_12.out)⟩; have n1_ : Aside0 (Kd.V k23 23 wc w.heap.size (fun k_ => some k_ ≠ (.slice (some ad313) t309.length co43 : Value).ownBlock ∧ k_ ≠ gb291 ∧ k_ ≠ gb308) (.slice (some ad300) t293.length co14) t293) := ⟨by rw [← hq_]; exact (by (with_reducible repeat (first | apply Kd.V_alloc | apply Kd.V_drewN | apply Kd.V_drew)); exact HO_292000.out)⟩; have n2_ : Aside0 (Kd.V k36 36 wc w.heap.size (fun k_ => some k_ ≠ (.slice (some ad313) t309.length co43 : Value).ownBlock ∧ k_ ≠ gb291 ∧ k_ ≠ gb308) (.slice Ao16 t296.length co16) t296) := ⟨by rw [← hq_]; exact (by (with_reducible repeat (first | apply Kd.V_alloc | apply Kd.V_drewN | apply Kd.V_drew)); exact HO_292001.out)⟩; have n3_ : Aside0 (wc.heap[gb291]? = some (.cells #[.slice (some ad300) t293.length co14, .slice Ao16 t296.length co16] 29 (0, 0))) := ⟨by rw [← hq_]; exact (by (with_reducible repeat (first | refine blk_drewN ?_ _ | refine blk_drew ?_ | refine blk_alloc ?_ _)); exact BK291.out)⟩; have n4_ : Aside0 (wc.heap[gb308]? = some (.cells #[.int .i64 x309000_2, .int .i64 x309001_2, .int .i64 x309002_2, .int .i64 x309003_2, .int .i64 x309004_2, .int .i64 x309005_2, .int .i64 x309006_2] 42 (0, 0))) := ⟨by rw [← hq_]; exact (by (with_reducible repeat (first | refine blk_drewN ?_ _ | refine blk_drew ?_ | refine blk_alloc ?_ _)); exact BK308.out)⟩; have n5_ : Aside0 (Below w.heap.size w wc) := ⟨by rw [← hq_]; exact (by repeat (first | (with_reducible first | exact HB.out | apply below_alloc | apply pw_below_drewN | apply below_drew1 | refine below_set ?_ GE291.out | refine below_set ?_ GE308.out) | exact HB.out))⟩; clear HO_12 HO_292000 HO_292001 BK291 BK308 HB hq_; have HO_12 := n0_; have HO_292000 := n1_; have HO_292001 := n2_; have BK291 := n3_; have BK308 := n4_; have HB := n5_; clear n0_ n1_ n2_ n3_ n4_ n5_))))
                          have n0_ := Aside0.mk (Kd.R_drew HO_12.out)
                          have n1_ := Aside0.mk (Kd.V_drew HO_292000.out)
                          have n2_ := Aside0.mk (Kd.V_drew HO_292001.out)
                          have n3_ := Aside0.mk (blk_drew BK291.out)
                          have n4_ := Aside0.mk (blk_drew BK308.out)
                          have n5_ := Aside0.mk (below_drew1 HB.out)
                          clear HO_12
                          clear HO_292000
                          clear HO_292001
                          clear BK291
                          clear BK308
                          clear HB
                          have HO_12 := n0_
                          have HO_292000 := n1_
                          have HO_292001 := n2_
                          have BK291 := n3_
                          have BK308 := n4_
                          have HB := n5_
                          clear n0_ n1_ n2_ n3_ n4_ n5_
                          have p316 : 0 ≤ (((rd_T47 t309 x13_38).f0) : Int) := of_decide_eq_true (by first | (with_reducible assumption) | assumption)
                          have q316 : ((rd_T47 t309 x13_38).f0) < (t293.length : Int) := of_decide_eq_true (by first | (with_reducible assumption) | assumption)
                          obtain ⟨ad316, e316, hx316_0, hx316_1, hx316_2, hx316_3⟩ := at_T23 (Kd.V_reads' HO_292000.out).2.2 ((rd_T47 t309 x13_38).f0) p316 q316
                          obtain rfl : ad300 = ad316 := (by injection e316)
                          replace p316 := eq_true p316
                          replace q316 := eq_true q316
                          refine start_ (n := 14) (S := fun w' => w'.cell? ⟨gb308, 0, none⟩ = some (.int .i64 x309000_2) ∧ w'.cell? ⟨gb308, 1, none⟩ = some (.int .i64 x309001_2) ∧ w'.cell? ⟨gb308, 2, none⟩ = some (.int .i64 x309002_2) ∧ w'.cell? ⟨gb308, 3, none⟩ = some (.int .i64 x309003_2) ∧ w'.cell? ⟨gb308, 4, none⟩ = some (.int .i64 x309004_2) ∧ w'.cell? ⟨gb308, 5, none⟩ = some (.int .i64 x309005_2) ∧ w'.cell? ⟨gb308, 6, none⟩ = some (.int .i64 x309006_2) ∧ w'.cell? ⟨gb291, 0, none⟩ = some (.slice (some ad300) t293.length co14) ∧ w'.cell? ⟨gb291, 1, none⟩ = some (.slice Ao16 t296.length co16) ∧ w'.cell? (ad300.add ((((rd_T47 t309 x13_38).f0)).toNat * 4)) = some (.int .i64 ((rd_T23 t293 ((rd_T47 t309 x13_38).f0)).f0)) ∧ w'.cell? ⟨(ad300.add ((((rd_T47 t309 x13_38).f0)).toNat * 4)).block, (ad300.add ((((rd_T47 t309 x13_38).f0)).toNat * 4)).off + 1, none⟩ = some (.int .i64 ((rd_T23 t293 ((rd_T47 t309 x13_38).f0)).f1)) ∧ w'.cell? ⟨(ad300.add ((((rd_T47 t309 x13_38).f0)).toNat * 4)).block, (ad300.add ((((rd_T47 t309 x13_38).f0)).toNat * 4)).off + 2, none⟩ = some (.int .i64 ((rd_T23 t293 ((rd_T47 t309 x13_38).f0)).f2)) ∧ w'.cell? ⟨(ad300.add ((((rd_T47 t309 x13_38).f0)).toNat * 4)).block, (ad300.add ((((rd_T47 t309 x13_38).f0)).toNat * 4)).off + 3, none⟩ = some (.int .i64 ((rd_T23 t293 ((rd_T47 t309 x13_38).f0)).f3))) (ds := []) #[false, false, false, false, false, false, false, false, false, false, false, false, false, false] (by kernel_rfl) rfl rfl ⟨(blk_cell BK308.out 0).trans rfl, (blk_cell BK308.out 1).trans rfl, (blk_cell BK308.out 2).trans rfl, (blk_cell BK308.out 3).trans rfl, (blk_cell BK308.out 4).trans rfl, (blk_cell BK308.out 5).trans rfl, (blk_cell BK308.out 6).trans rfl, (blk_cell BK291.out 0).trans rfl, (blk_cell BK291.out 1).trans rfl, hx316_0, hx316_1, hx316_2, hx316_3⟩ (fun hHeld => ?_); refine with_tabW meanderlaw09_ValidRound_Rnd.tab22 meanderlaw09_ValidRound_Rnd.bits22 (fun HT_ HW_ => ?_)
                          generalize wc.drew = w62 at HO_12 HO_292000 HO_292001 BK291 BK308 HB hx316_0 hx316_1 hx316_2 hx316_3 hHeld ⊢
                          refine pure_ (i := 1) (N := some 85) (v := ?_) (a' := ?_) #[false, true, false, false, false, false, false, false, false, false, false, false, false, false] rfl rfl (any_of HT_.out (by kernel_rfl)) (fun _ _ _ h => h) (Or.inl ⟨by rfl, ?_⟩) ?_ ?_
                          rotate_left
                          ·intro w'
                           go_simp
                           with_reducible rfl
                          rotate_left
                          ·simp only [Act.put, List.setIfInBounds_toArray, List.set_cons_zero, List.set_cons_succ, i64_w, i32_w]
                           rfl
                          refine pure_ (i := 3) (N := some 87) (v := ?_) (a' := ?_) #[false, true, false, true, false, false, false, false, false, false, false, false, false, false] rfl rfl (any_of HT_.out (by kernel_rfl)) (fun _ _ _ h => h) (Or.inl ⟨by rfl, ?_⟩) ?_ ?_
                          rotate_left
                          ·intro w'
                           go_simp
                           with_reducible rfl
                          rotate_left
                          ·simp only [Act.put, List.setIfInBounds_toArray, List.set_cons_zero, List.set_cons_succ, i64_w, i32_w]
                           rfl
                          refine take_ (i := 0) (N := some 84) (v := ?_) (a' := ?_) #[true, true, false, true, false, false, false, false, false, false, false, false, false, false] rfl rfl (take_ofW HT_.out HW_.out (by kernel_rfl)) (fun _ _ _ h => h) (Or.inl ⟨by rfl, ?_⟩) hHeld ?_ ?_
                          rotate_left
                          ·rintro w' ⟨s0, s1, s2, s3, s4, s5, s6, s7, s8, s9, s10, s11, s12⟩
                           go_simp
                           with_reducible rfl
                          rotate_left
                          ·simp only [Act.put, List.setIfInBounds_toArray, List.set_cons_zero, List.set_cons_succ, i64_w, i32_w]
                           rfl
                          refine take_ (i := 2) (N := some 86) (v := ?_) (a' := ?_) #[true, true, true, true, false, false, false, false, false, false, false, false, false, false] rfl rfl (take_ofW HT_.out HW_.out (by kernel_rfl)) (fun _ _ _ h => h) (Or.inl ⟨by rfl, ?_⟩) hHeld ?_ ?_
                          rotate_left
                          ·rintro w' ⟨s0, s1, s2, s3, s4, s5, s6, s7, s8, s9, s10, s11, s12⟩
                           go_simp
                           with_reducible rfl
                          rotate_left
                          ·simp only [Act.put, List.setIfInBounds_toArray, List.set_cons_zero, List.set_cons_succ, i64_w, i32_w]
                           rfl
                          refine pure_ (i := 4) (N := some 88) (v := ?_) (a' := ?_) #[true, true, true, true, true, false, false, false, false, false, false, false, false, false] rfl rfl (any_of HT_.out (by kernel_rfl)) (fun _ _ _ h => h) (Or.inl ⟨by rfl, ?_⟩) ?_ ?_
                          rotate_left
                          ·intro w'
                           go_simp
                           with_reducible rfl
                          rotate_left
                          ·simp only [Act.put, List.setIfInBounds_toArray, List.set_cons_zero, List.set_cons_succ, i64_w, i32_w]
                           rfl
                          refine take_ (i := 5) (N := some 89) (v := ?_) (a' := ?_) #[true, true, true, true, true, true, false, false, false, false, false, false, false, false] rfl rfl (take_ofW HT_.out HW_.out (by kernel_rfl)) (fun _ _ _ h => h) (Or.inl ⟨by rfl, ?_⟩) hHeld ?_ ?_
                          rotate_left
                          ·rintro w' ⟨s0, s1, s2, s3, s4, s5, s6, s7, s8, s9, s10, s11, s12⟩
                           go_simp
                           with_reducible rfl
                          rotate_left
                          ·simp only [Act.put, List.setIfInBounds_toArray, List.set_cons_zero, List.set_cons_succ, i64_w, i32_w]
                           rfl
                          refine join_ (σ := Nat) 2 #[true, true, true, true, true, true, true, true, true, true, true, true, false, false] (fun s_ => [(90, .agg #[.int .i64 t317, .int .i64 t318, .int .i64 t319, .int .i64 t320, .int .i64 t321, .int .i64 t322, .int .i64 t323]), (91, .tuple #[.agg #[.int .i64 t324, .int .i64 t325, .int .i64 t326, .int .i64 t327, .int .i64 t328, .int .i64 t329, .int .i64 t330], .int .i64 t331]), (14, .pointer (some ⟨s_, 0, none⟩)), (83, .tuple #[.agg #[.int .i64 t324, .int .i64 t325, .int .i64 t326, .int .i64 t327, .int .i64 t328, .int .i64 t329, .int .i64 t330], .int .i64 t331]), (92, .agg #[.int .i64 t324, .int .i64 t325, .int .i64 t326, .int .i64 t327, .int .i64 t328, .int .i64 t329, .int .i64 t330]), (93, .int .i64 t331)]) (fun s_ w' => (w'.cell? ⟨gb308, 0, none⟩ = some (.int .i64 x309000_2) ∧ w'.cell? ⟨gb308, 1, none⟩ = some (.int .i64 x309001_2) ∧ w'.cell? ⟨gb308, 2, none⟩ = some (.int .i64 x309002_2) ∧ w'.cell? ⟨gb308, 3, none⟩ = some (.int .i64 x309003_2) ∧ w'.cell? ⟨gb308, 4, none⟩ = some (.int .i64 x309004_2) ∧ w'.cell? ⟨gb308, 5, none⟩ = some (.int .i64 x309005_2) ∧ w'.cell? ⟨gb308, 6, none⟩ = some (.int .i64 x309006_2) ∧ w'.cell? ⟨gb291, 0, none⟩ = some (.slice (some ad300) t293.length co14) ∧ w'.cell? ⟨gb291, 1, none⟩ = some (.slice Ao16 t296.length co16) ∧ w'.cell? (ad300.add ((((rd_T47 t309 x13_38).f0)).toNat * 4)) = some (.int .i64 ((rd_T23 t293 ((rd_T47 t309 x13_38).f0)).f0)) ∧ w'.cell? ⟨(ad300.add ((((rd_T47 t309 x13_38).f0)).toNat * 4)).block, (ad300.add ((((rd_T47 t309 x13_38).f0)).toNat * 4)).off + 1, none⟩ = some (.int .i64 ((rd_T23 t293 ((rd_T47 t309 x13_38).f0)).f1)) ∧ w'.cell? ⟨(ad300.add ((((rd_T47 t309 x13_38).f0)).toNat * 4)).block, (ad300.add ((((rd_T47 t309 x13_38).f0)).toNat * 4)).off + 2, none⟩ = some (.int .i64 ((rd_T23 t293 ((rd_T47 t309 x13_38).f0)).f2)) ∧ w'.cell? ⟨(ad300.add ((((rd_T47 t309 x13_38).f0)).toNat * 4)).block, (ad300.add ((((rd_T47 t309 x13_38).f0)).toNat * 4)).off + 3, none⟩ = some (.int .i64 ((rd_T23 t293 ((rd_T47 t309 x13_38).f0)).f3))) ∧ (Kd.R k47 47 w' w.heap.size (fun _ => True) (.slice (some ad313) t309.length co43) t309) ∧ (Kd.V k23 23 w' w.heap.size (fun k_ => some k_ ≠ (.slice (some ad313) t309.length co43 : Value).ownBlock ∧ k_ ≠ gb291 ∧ k_ ≠ gb308 ∧ k_ ≠ s_) (.slice (some ad300) t293.length co14) t293) ∧ (Kd.V k36 36 w' w.heap.size (fun k_ => some k_ ≠ (.slice (some ad313) t309.length co43 : Value).ownBlock ∧ k_ ≠ gb291 ∧ k_ ≠ gb308 ∧ k_ ≠ s_) (.slice Ao16 t296.length co16) t296) ∧ (w'.heap[gb291]? = some (.cells #[.slice (some ad300) t293.length co14, .slice Ao16 t296.length co16] 29 (0, 0))) ∧ (w'.heap[gb308]? = some (.cells #[.int .i64 x309000_2, .int .i64 x309001_2, .int .i64 x309002_2, .int .i64 x309003_2, .int .i64 x309004_2, .int .i64 x309005_2, .int .i64 x309006_2] 42 (0, 0))) ∧ (w'.heap[s_]? = some (.cells #[.int .i64 0, .int .i64 0, .int .i64 0, .int .i64 0, .int .i64 0, .int .i64 0, .int .i64 0] 42 (0, 0))) ∧ (w.heap.size ≤ s_) ∧ (w.heap.size ≤ s_) ∧ (gb291 ≠ s_) ∧ (s_ ≠ gb291) ∧ (gb308 ≠ s_) ∧ (s_ ≠ gb308) ∧ (Below w.heap.size w w')) ?_ ?_
                          rotate_left
                          ·intro hCont
                           refine two_ (i := 6) (j := 11) (Ni := some 90) (Nj := some 14) #[true, true, true, true, true, true, true, false, false, false, false, false, false, false] #[true, true, true, true, true, true, false, false, false, false, false, true, false, false] rfl rfl rfl rfl (two_of HT_.out (by kernel_rfl)) (by decide) (by decide) (fun K hK => ?_) (fun K hK => ?_)
                           ·skip
                            refine goes_ Try.func19 (by kernel_rfl) rfl #[.agg #[.int .i64 ((rd_T23 t293 ((rd_T47 t309 x13_38).f0)).f0), .int .i64 ((rd_T23 t293 ((rd_T47 t309 x13_38).f0)).f1), .int .i64 ((rd_T23 t293 ((rd_T47 t309 x13_38).f0)).f2), .int .i64 ((rd_T23 t293 ((rd_T47 t309 x13_38).f0)).f3)]] (by rfl) rfl rfl (by (try simp only [List.map_toArray, List.map_cons, List.map_nil]); first | done | rfl | (simp only [List.length_drop, List.length_take]; rfl)) ?_
                            with_reducible refine (graph_Inner.calls ((rd_T23 t293 ((rd_T47 t309 x13_38).f0)).f0) ((rd_T23 t293 ((rd_T47 t309 x13_38).f0)).f1) ((rd_T23 t293 ((rd_T47 t309 x13_38).f0)).f2) ((rd_T23 t293 ((rd_T47 t309 x13_38).f0)).f3) t317 t318 t319 t320 t321 t322 t323 _ A51.out).mono ?_
                            rintro e w63 ⟨rfl, hb⟩
                            have HS9_ := (hb.cell (World.block_lt_of_cell? _ _ (hHeld.2.2.2.2.2.2.2.2.2.1))).trans (hHeld.2.2.2.2.2.2.2.2.2.1)
                            have HS10_ := (hb.cell (World.block_lt_of_cell? _ _ (hHeld.2.2.2.2.2.2.2.2.2.2.1))).trans (hHeld.2.2.2.2.2.2.2.2.2.2.1)
                            have HS11_ := (hb.cell (World.block_lt_of_cell? _ _ (hHeld.2.2.2.2.2.2.2.2.2.2.2.1))).trans (hHeld.2.2.2.2.2.2.2.2.2.2.2.1)
                            have HS12_ := (hb.cell (World.block_lt_of_cell? _ _ (hHeld.2.2.2.2.2.2.2.2.2.2.2.2))).trans (hHeld.2.2.2.2.2.2.2.2.2.2.2.2)
                            refine ⟨_, rfl, ?_⟩
                            have n0_ := Aside0.mk (Kd.R_below (by (with_reducible repeat (first | apply Kd.R_alloc | apply Kd.R_drewN | apply Kd.R_drew)); exact HO_12.out) hb)
                            have n1_ := Aside0.mk (Kd.V_below (by (with_reducible repeat (first | apply Kd.V_alloc | apply Kd.V_drewN | apply Kd.V_drew)); exact HO_292000.out) hb)
                            have n2_ := Aside0.mk (Kd.V_below (by (with_reducible repeat (first | apply Kd.V_alloc | apply Kd.V_drewN | apply Kd.V_drew)); exact HO_292001.out) hb)
                            have n3_ := Aside0.mk (blk_below (g := gb291) (o := .cells #[.slice (some ad300) t293.length co14, .slice Ao16 t296.length co16] 29 (0, 0)) (by (with_reducible repeat (first | refine blk_drewN ?_ _ | refine blk_drew ?_ | refine blk_alloc ?_ _)); exact BK291.out) hb)
                            have n4_ := Aside0.mk (blk_below (g := gb308) (o := .cells #[.int .i64 x309000_2, .int .i64 x309001_2, .int .i64 x309002_2, .int .i64 x309003_2, .int .i64 x309004_2, .int .i64 x309005_2, .int .i64 x309006_2] 42 (0, 0)) (by (with_reducible repeat (first | refine blk_drewN ?_ _ | refine blk_drew ?_ | refine blk_alloc ?_ _)); exact BK308.out) hb)
                            have n5_ := Aside0.mk (below_step (by repeat (first | (with_reducible first | exact HB.out | apply below_alloc | apply pw_below_drewN | apply below_drew1 | refine below_set ?_ GE291.out | refine below_set ?_ GE308.out) | exact HB.out)) hb)
                            clear HO_12
                            clear HO_292000
                            clear HO_292001
                            clear BK291
                            clear BK308
                            clear HB
                            have HO_12 := n0_
                            have HO_292000 := n1_
                            have HO_292001 := n2_
                            have BK291 := n3_
                            have BK308 := n4_
                            have HB := n5_
                            clear n0_ n1_ n2_ n3_ n4_ n5_
                            (try clear hb)
                            (try clear hb2)
                            (try clear hk)
                            (try clear hi)
                            refine hK.out _ _ ⟨(blk_cell BK308.out 0).trans rfl, (blk_cell BK308.out 1).trans rfl, (blk_cell BK308.out 2).trans rfl, (blk_cell BK308.out 3).trans rfl, (blk_cell BK308.out 4).trans rfl, (blk_cell BK308.out 5).trans rfl, (blk_cell BK308.out 6).trans rfl, (blk_cell BK291.out 0).trans rfl, (blk_cell BK291.out 1).trans rfl, HS9_, HS10_, HS11_, HS12_⟩ (fun hHeld => ?_)
                            clear hK K
                            refine norm_ (a' := ?_) ?_ ?_
                            rotate_left
                            ·show Act.put _ (some 90) _ = _
                             simp only [Act.put, List.setIfInBounds_toArray, List.set_cons_zero, List.set_cons_succ, i64_w, i32_w]
                             rfl
                            refine two_ (i := 7) (j := 11) (Ni := some 91) (Nj := some 14) #[true, true, true, true, true, true, true, true, false, false, false, false, false, false] #[true, true, true, true, true, true, true, false, false, false, false, true, false, false] rfl rfl rfl rfl (two_of HT_.out (by kernel_rfl)) (by decide) (by decide) (fun K hK => ?_) (fun K hK => ?_)
                            ·skip
                             refine goes_ Try.func18 (by kernel_rfl) rfl #[.agg #[.int .i64 x309000_2, .int .i64 x309001_2, .int .i64 x309002_2, .int .i64 x309003_2, .int .i64 x309004_2, .int .i64 x309005_2, .int .i64 x309006_2], .agg #[.int .i64 t317, .int .i64 t318, .int .i64 t319, .int .i64 t320, .int .i64 t321, .int .i64 t322, .int .i64 t323]] (by rfl) rfl rfl (by (try simp only [List.map_toArray, List.map_cons, List.map_nil]); first | done | rfl | (simp only [List.length_drop, List.length_take]; rfl)) ?_
                             with_reducible refine (meanderref02_Then.calls x309000_2 x309001_2 x309002_2 x309003_2 x309004_2 x309005_2 x309006_2 t317 t318 t319 t320 t321 t322 t323 t324 t325 t326 t327 t328 t329 t330 t331 _ A52.out).mono ?_
                             rintro e w64 ⟨rfl, hb⟩
                             have HS9_ := (hb.cell (World.block_lt_of_cell? _ _ (hHeld.2.2.2.2.2.2.2.2.2.1))).trans (hHeld.2.2.2.2.2.2.2.2.2.1)
                             have HS10_ := (hb.cell (World.block_lt_of_cell? _ _ (hHeld.2.2.2.2.2.2.2.2.2.2.1))).trans (hHeld.2.2.2.2.2.2.2.2.2.2.1)
                             have HS11_ := (hb.cell (World.block_lt_of_cell? _ _ (hHeld.2.2.2.2.2.2.2.2.2.2.2.1))).trans (hHeld.2.2.2.2.2.2.2.2.2.2.2.1)
                             have HS12_ := (hb.cell (World.block_lt_of_cell? _ _ (hHeld.2.2.2.2.2.2.2.2.2.2.2.2))).trans (hHeld.2.2.2.2.2.2.2.2.2.2.2.2)
                             refine ⟨_, rfl, ?_⟩
                             have n0_ := Aside0.mk (Kd.R_below (by (with_reducible repeat (first | apply Kd.R_alloc | apply Kd.R_drewN | apply Kd.R_drew)); exact HO_12.out) hb)
                             have n1_ := Aside0.mk (Kd.V_below (by (with_reducible repeat (first | apply Kd.V_alloc | apply Kd.V_drewN | apply Kd.V_drew)); exact HO_292000.out) hb)
                             have n2_ := Aside0.mk (Kd.V_below (by (with_reducible repeat (first | apply Kd.V_alloc | apply Kd.V_drewN | apply Kd.V_drew)); exact HO_292001.out) hb)
                             have n3_ := Aside0.mk (blk_below (g := gb291) (o := .cells #[.slice (some ad300) t293.length co14, .slice Ao16 t296.length co16] 29 (0, 0)) (by (with_reducible repeat (first | refine blk_drewN ?_ _ | refine blk_drew ?_ | refine blk_alloc ?_ _)); exact BK291.out) hb)
                             have n4_ := Aside0.mk (blk_below (g := gb308) (o := .cells #[.int .i64 x309000_2, .int .i64 x309001_2, .int .i64 x309002_2, .int .i64 x309003_2, .int .i64 x309004_2, .int .i64 x309005_2, .int .i64 x309006_2] 42 (0, 0)) (by (with_reducible repeat (first | refine blk_drewN ?_ _ | refine blk_drew ?_ | refine blk_alloc ?_ _)); exact BK308.out) hb)
                             have n5_ := Aside0.mk (below_step (by repeat (first | (with_reducible first | exact HB.out | apply below_alloc | apply pw_below_drewN | apply below_drew1 | refine below_set ?_ GE291.out | refine below_set ?_ GE308.out) | exact HB.out)) hb)
                             clear HO_12
                             clear HO_292000
                             clear HO_292001
                             clear BK291
                             clear BK308
                             clear HB
                             have HO_12 := n0_
                             have HO_292000 := n1_
                             have HO_292001 := n2_
                             have BK291 := n3_
                             have BK308 := n4_
                             have HB := n5_
                             clear n0_ n1_ n2_ n3_ n4_ n5_
                             (try clear hb)
                             (try clear hb2)
                             (try clear hk)
                             (try clear hi)
                             refine hK.out _ _ ⟨(blk_cell BK308.out 0).trans rfl, (blk_cell BK308.out 1).trans rfl, (blk_cell BK308.out 2).trans rfl, (blk_cell BK308.out 3).trans rfl, (blk_cell BK308.out 4).trans rfl, (blk_cell BK308.out 5).trans rfl, (blk_cell BK308.out 6).trans rfl, (blk_cell BK291.out 0).trans rfl, (blk_cell BK291.out 1).trans rfl, HS9_, HS10_, HS11_, HS12_⟩ (fun hHeld => ?_)
                             clear hK K
                             refine norm_ (a' := ?_) ?_ ?_
                             rotate_left
                             ·show Act.put _ (some 91) _ = _
                              simp only [Act.put, List.setIfInBounds_toArray, List.set_cons_zero, List.set_cons_succ, i64_w, i32_w]
                              rfl
                             refine pure_ (i := 8) (N := some 83) (v := ?_) (a' := ?_) #[true, true, true, true, true, true, true, true, true, false, false, false, false, false] rfl rfl (any_of HT_.out (by kernel_rfl)) (fun _ _ _ h => h) (Or.inl ⟨by rfl, ?_⟩) ?_ ?_
                             rotate_left
                             ·intro w'
                              go_simp
                              with_reducible rfl
                             rotate_left
                             ·simp only [Act.put, List.setIfInBounds_toArray, List.set_cons_zero, List.set_cons_succ, i64_w, i32_w]
                              rfl
                             refine pure_ (i := 9) (N := some 92) (v := ?_) (a' := ?_) #[true, true, true, true, true, true, true, true, true, true, false, false, false, false] rfl rfl (any_of HT_.out (by kernel_rfl)) (fun _ _ _ h => h) (Or.inl ⟨by rfl, ?_⟩) ?_ ?_
                             rotate_left
                             ·intro w'
                              go_simp
                              with_reducible rfl
                             rotate_left
                             ·simp only [Act.put, List.setIfInBounds_toArray, List.set_cons_zero, List.set_cons_succ, i64_w, i32_w]
                              rfl
                             refine pure_ (i := 10) (N := some 93) (v := ?_) (a' := ?_) #[true, true, true, true, true, true, true, true, true, true, true, false, false, false] rfl rfl (any_of HT_.out (by kernel_rfl)) (fun _ _ _ h => h) (Or.inl ⟨by rfl, ?_⟩) ?_ ?_
                             rotate_left
                             ·intro w'
                              go_simp
                              with_reducible rfl
                             rotate_left
                             ·simp only [Act.put, List.setIfInBounds_toArray, List.set_cons_zero, List.set_cons_succ, i64_w, i32_w]
                              rfl
                             refine one_ (i := 11) (N := some 14) #[true, true, true, true, true, true, true, true, true, true, true, true, false, false] rfl rfl (one_of HT_.out (by kernel_rfl)) (by decide) (fun K hK => ?_)
                             refine box_step ?hg (N := 14) ?hd (cs := #[.int .i64 0, .int .i64 0, .int .i64 0, .int .i64 0, .int .i64 0, .int .i64 0, .int .i64 0]) (t := 42) ?hr ?_; (case hd => rfl); (case hg => rfl); (case hr => first | (go_simp; done) | (go_simp; rfl))
                             intro gb332 hg w65 hbox hb
                             have HS9_ := (hb.cell (World.block_lt_of_cell? _ _ (hHeld.2.2.2.2.2.2.2.2.2.1))).trans (hHeld.2.2.2.2.2.2.2.2.2.1)
                             have HS10_ := (hb.cell (World.block_lt_of_cell? _ _ (hHeld.2.2.2.2.2.2.2.2.2.2.1))).trans (hHeld.2.2.2.2.2.2.2.2.2.2.1)
                             have HS11_ := (hb.cell (World.block_lt_of_cell? _ _ (hHeld.2.2.2.2.2.2.2.2.2.2.2.1))).trans (hHeld.2.2.2.2.2.2.2.2.2.2.2.1)
                             have HS12_ := (hb.cell (World.block_lt_of_cell? _ _ (hHeld.2.2.2.2.2.2.2.2.2.2.2.2))).trans (hHeld.2.2.2.2.2.2.2.2.2.2.2.2)
                             have n0_ := Aside0.mk (Kd.R_below (by (with_reducible repeat (first | apply Kd.R_alloc | apply Kd.R_drewN | apply Kd.R_drew)); exact HO_12.out) hb)
                             have n1_ := Aside0.mk (Kd.V_below (Kd.V_elderB (by (with_reducible repeat (first | apply Kd.V_alloc | apply Kd.V_drewN | apply Kd.V_drew)); exact HO_292000.out) gb332 (Nat.le_of_eq hg.symm)) hb)
                             have n2_ := Aside0.mk (Kd.V_below (Kd.V_elderB (by (with_reducible repeat (first | apply Kd.V_alloc | apply Kd.V_drewN | apply Kd.V_drew)); exact HO_292001.out) gb332 (Nat.le_of_eq hg.symm)) hb)
                             have n3_ := Aside0.mk (blk_below (g := gb291) (o := .cells #[.slice (some ad300) t293.length co14, .slice Ao16 t296.length co16] 29 (0, 0)) (by (with_reducible repeat (first | refine blk_drewN ?_ _ | refine blk_drew ?_ | refine blk_alloc ?_ _)); exact BK291.out) hb)
                             have n4_ := Aside0.mk (blk_below (g := gb308) (o := .cells #[.int .i64 x309000_2, .int .i64 x309001_2, .int .i64 x309002_2, .int .i64 x309003_2, .int .i64 x309004_2, .int .i64 x309005_2, .int .i64 x309006_2] 42 (0, 0)) (by (with_reducible repeat (first | refine blk_drewN ?_ _ | refine blk_drew ?_ | refine blk_alloc ?_ _)); exact BK308.out) hb)
                             have n5_ := Aside0.mk (below_step (by repeat (first | (with_reducible first | exact HB.out | apply below_alloc | apply pw_below_drewN | apply below_drew1 | refine below_set ?_ GE291.out | refine below_set ?_ GE308.out) | exact HB.out)) hb)
                             have n6_ := Aside0.mk (hbox)
                             have n7_ := Aside0.mk ((by rw [hg]; exact (below_size (by repeat (first | (with_reducible first | exact HB.out | apply below_alloc | apply pw_below_drewN | apply below_drew1 | refine below_set ?_ GE291.out | refine below_set ?_ GE308.out) | exact HB.out))) : w.heap.size ≤ gb332))
                             have n8_ := Aside0.mk ((by rw [hg]; exact (below_size (by repeat (first | (with_reducible first | exact HB.out | apply below_alloc | apply pw_below_drewN | apply below_drew1 | refine below_set ?_ GE291.out | refine below_set ?_ GE308.out) | exact HB.out))) : w.heap.size ≤ gb332))
                             have n9_ := Aside0.mk ((by rw [hg]; exact Nat.ne_of_lt (blk_lt (g := gb291) (o := .cells #[.slice (some ad300) t293.length co14, .slice Ao16 t296.length co16] 29 (0, 0)) (by (with_reducible repeat (first | refine blk_drewN ?_ _ | refine blk_drew ?_ | refine blk_alloc ?_ _)); exact BK291.out)) : gb291 ≠ gb332))
                             have n10_ := Aside0.mk ((by rw [hg]; exact Nat.ne_of_gt (blk_lt (g := gb291) (o := .cells #[.slice (some ad300) t293.length co14, .slice Ao16 t296.length co16] 29 (0, 0)) (by (with_reducible repeat (first | refine blk_drewN ?_ _ | refine blk_drew ?_ | refine blk_alloc ?_ _)); exact BK291.out)) : gb332 ≠ gb291))
                             have n11_ := Aside0.mk ((by rw [hg]; exact Nat.ne_of_lt (blk_lt (g := gb308) (o := .cells #[.int .i64 x309000_2, .int .i64 x309001_2, .int .i64 x309002_2, .int .i64 x309003_2, .int .i64 x309004_2, .int .i64 x309005_2, .int .i64 x309006_2] 42 (0, 0)) (by (with_reducible repeat (first | refine blk_drewN ?_ _ | refine blk_drew ?_ | refine blk_alloc ?_ _)); exact BK308.out)) : gb308 ≠ gb332))
                             have n12_ := Aside0.mk ((by rw [hg]; exact Nat.ne_of_gt (blk_lt (g := gb308) (o := .cells #[.int .i64 x309000_2, .int .i64 x309001_2, .int .i64 x309002_2, .int .i64 x309003_2, .int .i64 x309004_2, .int .i64 x309005_2, .int .i64 x309006_2] 42 (0, 0)) (by (with_reducible repeat (first | refine blk_drewN ?_ _ | refine blk_drew ?_ | refine blk_alloc ?_ _)); exact BK308.out)) : gb332 ≠ gb308))
                             clear HO_12
                             clear HO_292000
                             clear HO_292001
                             clear BK291
                             clear BK308
                             clear HB
                             have HO_12 := n0_
                             have HO_292000 := n1_
                             have HO_292001 := n2_
                             have BK291 := n3_
                             have BK308 := n4_
                             have HB := n5_
                             have BK332 := n6_
                             have GW332 := n7_
                             have GE332 := n8_
                             have NB291_332 := n9_
                             have NB332_291 := n10_
                             have NB308_332 := n11_
                             have NB332_308 := n12_
                             clear n0_ n1_ n2_ n3_ n4_ n5_ n6_ n7_ n8_ n9_ n10_ n11_ n12_
                             clear hb hbox hg
                             refine hK.out _ _ ⟨(blk_cell BK308.out 0).trans rfl, (blk_cell BK308.out 1).trans rfl, (blk_cell BK308.out 2).trans rfl, (blk_cell BK308.out 3).trans rfl, (blk_cell BK308.out 4).trans rfl, (blk_cell BK308.out 5).trans rfl, (blk_cell BK308.out 6).trans rfl, (blk_cell BK291.out 0).trans rfl, (blk_cell BK291.out 1).trans rfl, HS9_, HS10_, HS11_, HS12_⟩ (fun hHeld => ?_)
                             clear hK K
                             refine norm_ (a' := ?_) ?_ ?_
                             rotate_left
                             ·show Act.put _ (some 14) _ = _
                              simp only [Act.put, List.setIfInBounds_toArray, List.set_cons_zero, List.set_cons_succ, i64_w, i32_w]
                              rfl
                             exact norm_ (by simp only [putAll, Act.put, List.setIfInBounds_toArray, List.set_cons_zero, List.set_cons_succ]) (hCont (gb332) _ ⟨hHeld, (by (with_reducible repeat (first | apply Kd.R_alloc | apply Kd.R_drewN | apply Kd.R_drew)); exact HO_12.out), (by (with_reducible repeat (first | apply Kd.V_alloc | apply Kd.V_drewN | apply Kd.V_drew)); exact Kd.V_mono HO_292000.out (fun _ hk => ⟨hk.1.1, ⟨hk.1.2.1, ⟨hk.1.2.2, hk.2⟩⟩⟩)), (by (with_reducible repeat (first | apply Kd.V_alloc | apply Kd.V_drewN | apply Kd.V_drew)); exact Kd.V_mono HO_292001.out (fun _ hk => ⟨hk.1.1, ⟨hk.1.2.1, ⟨hk.1.2.2, hk.2⟩⟩⟩)), (by (with_reducible repeat (first | refine blk_drewN ?_ _ | refine blk_drew ?_ | refine blk_alloc ?_ _)); exact BK291.out), (by (with_reducible repeat (first | refine blk_drewN ?_ _ | refine blk_drew ?_ | refine blk_alloc ?_ _)); exact BK308.out), (by (with_reducible repeat (first | refine blk_drewN ?_ _ | refine blk_drew ?_ | refine blk_alloc ?_ _)); exact BK332.out), GW332.out, GE332.out, NB291_332.out, NB332_291.out, NB308_332.out, NB332_308.out, (by repeat (first | (with_reducible first | exact HB.out | apply below_alloc | apply pw_below_drewN | apply below_drew1 | refine below_set ?_ GE291.out | refine below_set ?_ GE308.out | refine below_set ?_ GE332.out) | exact HB.out))⟩)
                            ·skip
                             refine box_step ?hg (N := 14) ?hd (cs := #[.int .i64 0, .int .i64 0, .int .i64 0, .int .i64 0, .int .i64 0, .int .i64 0, .int .i64 0]) (t := 42) ?hr ?_; (case hd => rfl); (case hg => rfl); (case hr => first | (go_simp; done) | (go_simp; rfl))
                             intro gb332 hg w64 hbox hb
                             have HS9_ := (hb.cell (World.block_lt_of_cell? _ _ (hHeld.2.2.2.2.2.2.2.2.2.1))).trans (hHeld.2.2.2.2.2.2.2.2.2.1)
                             have HS10_ := (hb.cell (World.block_lt_of_cell? _ _ (hHeld.2.2.2.2.2.2.2.2.2.2.1))).trans (hHeld.2.2.2.2.2.2.2.2.2.2.1)
                             have HS11_ := (hb.cell (World.block_lt_of_cell? _ _ (hHeld.2.2.2.2.2.2.2.2.2.2.2.1))).trans (hHeld.2.2.2.2.2.2.2.2.2.2.2.1)
                             have HS12_ := (hb.cell (World.block_lt_of_cell? _ _ (hHeld.2.2.2.2.2.2.2.2.2.2.2.2))).trans (hHeld.2.2.2.2.2.2.2.2.2.2.2.2)
                             have n0_ := Aside0.mk (Kd.R_below (by (with_reducible repeat (first | apply Kd.R_alloc | apply Kd.R_drewN | apply Kd.R_drew)); exact HO_12.out) hb)
                             have n1_ := Aside0.mk (Kd.V_below (Kd.V_elderB (by (with_reducible repeat (first | apply Kd.V_alloc | apply Kd.V_drewN | apply Kd.V_drew)); exact HO_292000.out) gb332 (Nat.le_of_eq hg.symm)) hb)
                             have n2_ := Aside0.mk (Kd.V_below (Kd.V_elderB (by (with_reducible repeat (first | apply Kd.V_alloc | apply Kd.V_drewN | apply Kd.V_drew)); exact HO_292001.out) gb332 (Nat.le_of_eq hg.symm)) hb)
                             have n3_ := Aside0.mk (blk_below (g := gb291) (o := .cells #[.slice (some ad300) t293.length co14, .slice Ao16 t296.length co16] 29 (0, 0)) (by (with_reducible repeat (first | refine blk_drewN ?_ _ | refine blk_drew ?_ | refine blk_alloc ?_ _)); exact BK291.out) hb)
                             have n4_ := Aside0.mk (blk_below (g := gb308) (o := .cells #[.int .i64 x309000_2, .int .i64 x309001_2, .int .i64 x309002_2, .int .i64 x309003_2, .int .i64 x309004_2, .int .i64 x309005_2, .int .i64 x309006_2] 42 (0, 0)) (by (with_reducible repeat (first | refine blk_drewN ?_ _ | refine blk_drew ?_ | refine blk_alloc ?_ _)); exact BK308.out) hb)
                             have n5_ := Aside0.mk (below_step (by repeat (first | (with_reducible first | exact HB.out | apply below_alloc | apply pw_below_drewN | apply below_drew1 | refine below_set ?_ GE291.out | refine below_set ?_ GE308.out) | exact HB.out)) hb)
                             have n6_ := Aside0.mk (hbox)
                             have n7_ := Aside0.mk ((by rw [hg]; exact (below_size (by repeat (first | (with_reducible first | exact HB.out | apply below_alloc | apply pw_below_drewN | apply below_drew1 | refine below_set ?_ GE291.out | refine below_set ?_ GE308.out) | exact HB.out))) : w.heap.size ≤ gb332))
                             have n8_ := Aside0.mk ((by rw [hg]; exact (below_size (by repeat (first | (with_reducible first | exact HB.out | apply below_alloc | apply pw_below_drewN | apply below_drew1 | refine below_set ?_ GE291.out | refine below_set ?_ GE308.out) | exact HB.out))) : w.heap.size ≤ gb332))
                             have n9_ := Aside0.mk ((by rw [hg]; exact Nat.ne_of_lt (blk_lt (g := gb291) (o := .cells #[.slice (some ad300) t293.length co14, .slice Ao16 t296.length co16] 29 (0, 0)) (by (with_reducible repeat (first | refine blk_drewN ?_ _ | refine blk_drew ?_ | refine blk_alloc ?_ _)); exact BK291.out)) : gb291 ≠ gb332))
                             have n10_ := Aside0.mk ((by rw [hg]; exact Nat.ne_of_gt (blk_lt (g := gb291) (o := .cells #[.slice (some ad300) t293.length co14, .slice Ao16 t296.length co16] 29 (0, 0)) (by (with_reducible repeat (first | refine blk_drewN ?_ _ | refine blk_drew ?_ | refine blk_alloc ?_ _)); exact BK291.out)) : gb332 ≠ gb291))
                             have n11_ := Aside0.mk ((by rw [hg]; exact Nat.ne_of_lt (blk_lt (g := gb308) (o := .cells #[.int .i64 x309000_2, .int .i64 x309001_2, .int .i64 x309002_2, .int .i64 x309003_2, .int .i64 x309004_2, .int .i64 x309005_2, .int .i64 x309006_2] 42 (0, 0)) (by (with_reducible repeat (first | refine blk_drewN ?_ _ | refine blk_drew ?_ | refine blk_alloc ?_ _)); exact BK308.out)) : gb308 ≠ gb332))
                             have n12_ := Aside0.mk ((by rw [hg]; exact Nat.ne_of_gt (blk_lt (g := gb308) (o := .cells #[.int .i64 x309000_2, .int .i64 x309001_2, .int .i64 x309002_2, .int .i64 x309003_2, .int .i64 x309004_2, .int .i64 x309005_2, .int .i64 x309006_2] 42 (0, 0)) (by (with_reducible repeat (first | refine blk_drewN ?_ _ | refine blk_drew ?_ | refine blk_alloc ?_ _)); exact BK308.out)) : gb332 ≠ gb308))
                             clear HO_12
                             clear HO_292000
                             clear HO_292001
                             clear BK291
                             clear BK308
                             clear HB
                             have HO_12 := n0_
                             have HO_292000 := n1_
                             have HO_292001 := n2_
                             have BK291 := n3_
                             have BK308 := n4_
                             have HB := n5_
                             have BK332 := n6_
                             have GW332 := n7_
                             have GE332 := n8_
                             have NB291_332 := n9_
                             have NB332_291 := n10_
                             have NB308_332 := n11_
                             have NB332_308 := n12_
                             clear n0_ n1_ n2_ n3_ n4_ n5_ n6_ n7_ n8_ n9_ n10_ n11_ n12_
                             clear hb hbox hg
                             refine hK.out _ _ ⟨(blk_cell BK308.out 0).trans rfl, (blk_cell BK308.out 1).trans rfl, (blk_cell BK308.out 2).trans rfl, (blk_cell BK308.out 3).trans rfl, (blk_cell BK308.out 4).trans rfl, (blk_cell BK308.out 5).trans rfl, (blk_cell BK308.out 6).trans rfl, (blk_cell BK291.out 0).trans rfl, (blk_cell BK291.out 1).trans rfl, HS9_, HS10_, HS11_, HS12_⟩ (fun hHeld => ?_)
                             clear hK K
                             refine norm_ (a' := ?_) ?_ ?_
                             rotate_left
                             ·show Act.put _ (some 14) _ = _
                              simp only [Act.put, List.setIfInBounds_toArray, List.set_cons_zero, List.set_cons_succ, i64_w, i32_w]
                              rfl
                             refine one_ (i := 7) (N := some 91) #[true, true, true, true, true, true, true, true, false, false, false, true, false, false] rfl rfl (one_of HT_.out (by kernel_rfl)) (by decide) (fun K hK => ?_)
                             refine goes_ Try.func18 (by kernel_rfl) rfl #[.agg #[.int .i64 x309000_2, .int .i64 x309001_2, .int .i64 x309002_2, .int .i64 x309003_2, .int .i64 x309004_2, .int .i64 x309005_2, .int .i64 x309006_2], .agg #[.int .i64 t317, .int .i64 t318, .int .i64 t319, .int .i64 t320, .int .i64 t321, .int .i64 t322, .int .i64 t323]] (by rfl) rfl rfl (by (try simp only [List.map_toArray, List.map_cons, List.map_nil]); first | done | rfl | (simp only [List.length_drop, List.length_take]; rfl)) ?_
                             with_reducible refine (meanderref02_Then.calls x309000_2 x309001_2 x309002_2 x309003_2 x309004_2 x309005_2 x309006_2 t317 t318 t319 t320 t321 t322 t323 t324 t325 t326 t327 t328 t329 t330 t331 _ A52.out).mono ?_
                             rintro e w65 ⟨rfl, hb⟩
                             have HS9_ := (hb.cell (World.block_lt_of_cell? _ _ (hHeld.2.2.2.2.2.2.2.2.2.1))).trans (hHeld.2.2.2.2.2.2.2.2.2.1)
                             have HS10_ := (hb.cell (World.block_lt_of_cell? _ _ (hHeld.2.2.2.2.2.2.2.2.2.2.1))).trans (hHeld.2.2.2.2.2.2.2.2.2.2.1)
                             have HS11_ := (hb.cell (World.block_lt_of_cell? _ _ (hHeld.2.2.2.2.2.2.2.2.2.2.2.1))).trans (hHeld.2.2.2.2.2.2.2.2.2.2.2.1)
                             have HS12_ := (hb.cell (World.block_lt_of_cell? _ _ (hHeld.2.2.2.2.2.2.2.2.2.2.2.2))).trans (hHeld.2.2.2.2.2.2.2.2.2.2.2.2)
                             refine ⟨_, rfl, ?_⟩
                             have n0_ := Aside0.mk (Kd.R_below (by (with_reducible repeat (first | apply Kd.R_alloc | apply Kd.R_drewN | apply Kd.R_drew)); exact HO_12.out) hb)
                             have n1_ := Aside0.mk (Kd.V_below (by (with_reducible repeat (first | apply Kd.V_alloc | apply Kd.V_drewN | apply Kd.V_drew)); exact HO_292000.out) hb)
                             have n2_ := Aside0.mk (Kd.V_below (by (with_reducible repeat (first | apply Kd.V_alloc | apply Kd.V_drewN | apply Kd.V_drew)); exact HO_292001.out) hb)
                             have n3_ := Aside0.mk (blk_below (g := gb291) (o := .cells #[.slice (some ad300) t293.length co14, .slice Ao16 t296.length co16] 29 (0, 0)) (by (with_reducible repeat (first | refine blk_drewN ?_ _ | refine blk_drew ?_ | refine blk_alloc ?_ _)); exact BK291.out) hb)
                             have n4_ := Aside0.mk (blk_below (g := gb308) (o := .cells #[.int .i64 x309000_2, .int .i64 x309001_2, .int .i64 x309002_2, .int .i64 x309003_2, .int .i64 x309004_2, .int .i64 x309005_2, .int .i64 x309006_2] 42 (0, 0)) (by (with_reducible repeat (first | refine blk_drewN ?_ _ | refine blk_drew ?_ | refine blk_alloc ?_ _)); exact BK308.out) hb)
                             have n5_ := Aside0.mk (blk_below (g := gb332) (o := .cells #[.int .i64 0, .int .i64 0, .int .i64 0, .int .i64 0, .int .i64 0, .int .i64 0, .int .i64 0] 42 (0, 0)) (by (with_reducible repeat (first | refine blk_drewN ?_ _ | refine blk_drew ?_ | refine blk_alloc ?_ _)); exact BK332.out) hb)
                             have n6_ := Aside0.mk (below_step (by repeat (first | (with_reducible first | exact HB.out | apply below_alloc | apply pw_below_drewN | apply below_drew1 | refine below_set ?_ GE291.out | refine below_set ?_ GE308.out | refine below_set ?_ GE332.out) | exact HB.out)) hb)
                             clear HO_12
                             clear HO_292000
                             clear HO_292001
                             clear BK291
                             clear BK308
                             clear BK332
                             clear HB
                             have HO_12 := n0_
                             have HO_292000 := n1_
                             have HO_292001 := n2_
                             have BK291 := n3_
                             have BK308 := n4_
                             have BK332 := n5_
                             have HB := n6_
                             clear n0_ n1_ n2_ n3_ n4_ n5_ n6_
                             (try clear hb)
                             (try clear hb2)
                             (try clear hk)
                             (try clear hi)
                             refine hK.out _ _ ⟨(blk_cell BK308.out 0).trans rfl, (blk_cell BK308.out 1).trans rfl, (blk_cell BK308.out 2).trans rfl, (blk_cell BK308.out 3).trans rfl, (blk_cell BK308.out 4).trans rfl, (blk_cell BK308.out 5).trans rfl, (blk_cell BK308.out 6).trans rfl, (blk_cell BK291.out 0).trans rfl, (blk_cell BK291.out 1).trans rfl, HS9_, HS10_, HS11_, HS12_⟩ (fun hHeld => ?_)
                             clear hK K
                             refine norm_ (a' := ?_) ?_ ?_
                             rotate_left
                             ·show Act.put _ (some 91) _ = _
                              simp only [Act.put, List.setIfInBounds_toArray, List.set_cons_zero, List.set_cons_succ, i64_w, i32_w]
                              rfl
                             refine pure_ (i := 8) (N := some 83) (v := ?_) (a' := ?_) #[true, true, true, true, true, true, true, true, true, false, false, true, false, false] rfl rfl (any_of HT_.out (by kernel_rfl)) (fun _ _ _ h => h) (Or.inl ⟨by rfl, ?_⟩) ?_ ?_
                             rotate_left
                             ·intro w'
                              go_simp
                              with_reducible rfl
                             rotate_left
                             ·simp only [Act.put, List.setIfInBounds_toArray, List.set_cons_zero, List.set_cons_succ, i64_w, i32_w]
                              rfl
                             refine pure_ (i := 9) (N := some 92) (v := ?_) (a' := ?_) #[true, true, true, true, true, true, true, true, true, true, false, true, false, false] rfl rfl (any_of HT_.out (by kernel_rfl)) (fun _ _ _ h => h) (Or.inl ⟨by rfl, ?_⟩) ?_ ?_
                             rotate_left
                             ·intro w'
                              go_simp
                              with_reducible rfl
                             rotate_left
                             ·simp only [Act.put, List.setIfInBounds_toArray, List.set_cons_zero, List.set_cons_succ, i64_w, i32_w]
                              rfl
                             refine pure_ (i := 10) (N := some 93) (v := ?_) (a' := ?_) #[true, true, true, true, true, true, true, true, true, true, true, true, false, false] rfl rfl (any_of HT_.out (by kernel_rfl)) (fun _ _ _ h => h) (Or.inl ⟨by rfl, ?_⟩) ?_ ?_
                             rotate_left
                             ·intro w'
                              go_simp
                              with_reducible rfl
                             rotate_left
                             ·simp only [Act.put, List.setIfInBounds_toArray, List.set_cons_zero, List.set_cons_succ, i64_w, i32_w]
                              rfl
                             exact norm_ (by simp only [putAll, Act.put, List.setIfInBounds_toArray, List.set_cons_zero, List.set_cons_succ]) (hCont (gb332) _ ⟨hHeld, (by (with_reducible repeat (first | apply Kd.R_alloc | apply Kd.R_drewN | apply Kd.R_drew)); exact HO_12.out), (by (with_reducible repeat (first | apply Kd.V_alloc | apply Kd.V_drewN | apply Kd.V_drew)); exact Kd.V_mono HO_292000.out (fun _ hk => ⟨hk.1.1, ⟨hk.1.2.1, ⟨hk.1.2.2, hk.2⟩⟩⟩)), (by (with_reducible repeat (first | apply Kd.V_alloc | apply Kd.V_drewN | apply Kd.V_drew)); exact Kd.V_mono HO_292001.out (fun _ hk => ⟨hk.1.1, ⟨hk.1.2.1, ⟨hk.1.2.2, hk.2⟩⟩⟩)), (by (with_reducible repeat (first | refine blk_drewN ?_ _ | refine blk_drew ?_ | refine blk_alloc ?_ _)); exact BK291.out), (by (with_reducible repeat (first | refine blk_drewN ?_ _ | refine blk_drew ?_ | refine blk_alloc ?_ _)); exact BK308.out), (by (with_reducible repeat (first | refine blk_drewN ?_ _ | refine blk_drew ?_ | refine blk_alloc ?_ _)); exact BK332.out), GW332.out, GE332.out, NB291_332.out, NB332_291.out, NB308_332.out, NB332_308.out, (by repeat (first | (with_reducible first | exact HB.out | apply below_alloc | apply pw_below_drewN | apply below_drew1 | refine below_set ?_ GE291.out | refine below_set ?_ GE308.out | refine below_set ?_ GE332.out) | exact HB.out))⟩)
                           ·skip
                            refine box_step ?hg (N := 14) ?hd (cs := #[.int .i64 0, .int .i64 0, .int .i64 0, .int .i64 0, .int .i64 0, .int .i64 0, .int .i64 0]) (t := 42) ?hr ?_; (case hd => rfl); (case hg => rfl); (case hr => first | (go_simp; done) | (go_simp; rfl))
                            intro gb332 hg w63 hbox hb
                            have HS9_ := (hb.cell (World.block_lt_of_cell? _ _ (hHeld.2.2.2.2.2.2.2.2.2.1))).trans (hHeld.2.2.2.2.2.2.2.2.2.1)
                            have HS10_ := (hb.cell (World.block_lt_of_cell? _ _ (hHeld.2.2.2.2.2.2.2.2.2.2.1))).trans (hHeld.2.2.2.2.2.2.2.2.2.2.1)
                            have HS11_ := (hb.cell (World.block_lt_of_cell? _ _ (hHeld.2.2.2.2.2.2.2.2.2.2.2.1))).trans (hHeld.2.2.2.2.2.2.2.2.2.2.2.1)
                            have HS12_ := (hb.cell (World.block_lt_of_cell? _ _ (hHeld.2.2.2.2.2.2.2.2.2.2.2.2))).trans (hHeld.2.2.2.2.2.2.2.2.2.2.2.2)
                            have n0_ := Aside0.mk (Kd.R_below (by (with_reducible repeat (first | apply Kd.R_alloc | apply Kd.R_drewN | apply Kd.R_drew)); exact HO_12.out) hb)
                            have n1_ := Aside0.mk (Kd.V_below (Kd.V_elderB (by (with_reducible repeat (first | apply Kd.V_alloc | apply Kd.V_drewN | apply Kd.V_drew)); exact HO_292000.out) gb332 (Nat.le_of_eq hg.symm)) hb)
                            have n2_ := Aside0.mk (Kd.V_below (Kd.V_elderB (by (with_reducible repeat (first | apply Kd.V_alloc | apply Kd.V_drewN | apply Kd.V_drew)); exact HO_292001.out) gb332 (Nat.le_of_eq hg.symm)) hb)
                            have n3_ := Aside0.mk (blk_below (g := gb291) (o := .cells #[.slice (some ad300) t293.length co14, .slice Ao16 t296.length co16] 29 (0, 0)) (by (with_reducible repeat (first | refine blk_drewN ?_ _ | refine blk_drew ?_ | refine blk_alloc ?_ _)); exact BK291.out) hb)
                            have n4_ := Aside0.mk (blk_below (g := gb308) (o := .cells #[.int .i64 x309000_2, .int .i64 x309001_2, .int .i64 x309002_2, .int .i64 x309003_2, .int .i64 x309004_2, .int .i64 x309005_2, .int .i64 x309006_2] 42 (0, 0)) (by (with_reducible repeat (first | refine blk_drewN ?_ _ | refine blk_drew ?_ | refine blk_alloc ?_ _)); exact BK308.out) hb)
                            have n5_ := Aside0.mk (below_step (by repeat (first | (with_reducible first | exact HB.out | apply below_alloc | apply pw_below_drewN | apply below_drew1 | refine below_set ?_ GE291.out | refine below_set ?_ GE308.out) | exact HB.out)) hb)
                            have n6_ := Aside0.mk (hbox)
                            have n7_ := Aside0.mk ((by rw [hg]; exact (below_size (by repeat (first | (with_reducible first | exact HB.out | apply below_alloc | apply pw_below_drewN | apply below_drew1 | refine below_set ?_ GE291.out | refine below_set ?_ GE308.out) | exact HB.out))) : w.heap.size ≤ gb332))
                            have n8_ := Aside0.mk ((by rw [hg]; exact (below_size (by repeat (first | (with_reducible first | exact HB.out | apply below_alloc | apply pw_below_drewN | apply below_drew1 | refine below_set ?_ GE291.out | refine below_set ?_ GE308.out) | exact HB.out))) : w.heap.size ≤ gb332))
                            have n9_ := Aside0.mk ((by rw [hg]; exact Nat.ne_of_lt (blk_lt (g := gb291) (o := .cells #[.slice (some ad300) t293.length co14, .slice Ao16 t296.length co16] 29 (0, 0)) (by (with_reducible repeat (first | refine blk_drewN ?_ _ | refine blk_drew ?_ | refine blk_alloc ?_ _)); exact BK291.out)) : gb291 ≠ gb332))
                            have n10_ := Aside0.mk ((by rw [hg]; exact Nat.ne_of_gt (blk_lt (g := gb291) (o := .cells #[.slice (some ad300) t293.length co14, .slice Ao16 t296.length co16] 29 (0, 0)) (by (with_reducible repeat (first | refine blk_drewN ?_ _ | refine blk_drew ?_ | refine blk_alloc ?_ _)); exact BK291.out)) : gb332 ≠ gb291))
                            have n11_ := Aside0.mk ((by rw [hg]; exact Nat.ne_of_lt (blk_lt (g := gb308) (o := .cells #[.int .i64 x309000_2, .int .i64 x309001_2, .int .i64 x309002_2, .int .i64 x309003_2, .int .i64 x309004_2, .int .i64 x309005_2, .int .i64 x309006_2] 42 (0, 0)) (by (with_reducible repeat (first | refine blk_drewN ?_ _ | refine blk_drew ?_ | refine blk_alloc ?_ _)); exact BK308.out)) : gb308 ≠ gb332))
                            have n12_ := Aside0.mk ((by rw [hg]; exact Nat.ne_of_gt (blk_lt (g := gb308) (o := .cells #[.int .i64 x309000_2, .int .i64 x309001_2, .int .i64 x309002_2, .int .i64 x309003_2, .int .i64 x309004_2, .int .i64 x309005_2, .int .i64 x309006_2] 42 (0, 0)) (by (with_reducible repeat (first | refine blk_drewN ?_ _ | refine blk_drew ?_ | refine blk_alloc ?_ _)); exact BK308.out)) : gb332 ≠ gb308))
                            clear HO_12
                            clear HO_292000
                            clear HO_292001
                            clear BK291
                            clear BK308
                            clear HB
                            have HO_12 := n0_
                            have HO_292000 := n1_
                            have HO_292001 := n2_
                            have BK291 := n3_
                            have BK308 := n4_
                            have HB := n5_
                            have BK332 := n6_
                            have GW332 := n7_
                            have GE332 := n8_
                            have NB291_332 := n9_
                            have NB332_291 := n10_
                            have NB308_332 := n11_
                            have NB332_308 := n12_
                            clear n0_ n1_ n2_ n3_ n4_ n5_ n6_ n7_ n8_ n9_ n10_ n11_ n12_
                            clear hb hbox hg
                            refine hK.out _ _ ⟨(blk_cell BK308.out 0).trans rfl, (blk_cell BK308.out 1).trans rfl, (blk_cell BK308.out 2).trans rfl, (blk_cell BK308.out 3).trans rfl, (blk_cell BK308.out 4).trans rfl, (blk_cell BK308.out 5).trans rfl, (blk_cell BK308.out 6).trans rfl, (blk_cell BK291.out 0).trans rfl, (blk_cell BK291.out 1).trans rfl, HS9_, HS10_, HS11_, HS12_⟩ (fun hHeld => ?_)
                            clear hK K
                            refine norm_ (a' := ?_) ?_ ?_
                            rotate_left
                            ·show Act.put _ (some 14) _ = _
                             simp only [Act.put, List.setIfInBounds_toArray, List.set_cons_zero, List.set_cons_succ, i64_w, i32_w]
                             rfl
                            refine one_ (i := 6) (N := some 90) #[true, true, true, true, true, true, true, false, false, false, false, true, false, false] rfl rfl (one_of HT_.out (by kernel_rfl)) (by decide) (fun K hK => ?_)
                            refine goes_ Try.func19 (by kernel_rfl) rfl #[.agg #[.int .i64 ((rd_T23 t293 ((rd_T47 t309 x13_38).f0)).f0), .int .i64 ((rd_T23 t293 ((rd_T47 t309 x13_38).f0)).f1), .int .i64 ((rd_T23 t293 ((rd_T47 t309 x13_38).f0)).f2), .int .i64 ((rd_T23 t293 ((rd_T47 t309 x13_38).f0)).f3)]] (by rfl) rfl rfl (by (try simp only [List.map_toArray, List.map_cons, List.map_nil]); first | done | rfl | (simp only [List.length_drop, List.length_take]; rfl)) ?_
                            with_reducible refine (graph_Inner.calls ((rd_T23 t293 ((rd_T47 t309 x13_38).f0)).f0) ((rd_T23 t293 ((rd_T47 t309 x13_38).f0)).f1) ((rd_T23 t293 ((rd_T47 t309 x13_38).f0)).f2) ((rd_T23 t293 ((rd_T47 t309 x13_38).f0)).f3) t317 t318 t319 t320 t321 t322 t323 _ A51.out).mono ?_
                            rintro e w64 ⟨rfl, hb⟩
                            have HS9_ := (hb.cell (World.block_lt_of_cell? _ _ (hHeld.2.2.2.2.2.2.2.2.2.1))).trans (hHeld.2.2.2.2.2.2.2.2.2.1)
                            have HS10_ := (hb.cell (World.block_lt_of_cell? _ _ (hHeld.2.2.2.2.2.2.2.2.2.2.1))).trans (hHeld.2.2.2.2.2.2.2.2.2.2.1)
                            have HS11_ := (hb.cell (World.block_lt_of_cell? _ _ (hHeld.2.2.2.2.2.2.2.2.2.2.2.1))).trans (hHeld.2.2.2.2.2.2.2.2.2.2.2.1)
                            have HS12_ := (hb.cell (World.block_lt_of_cell? _ _ (hHeld.2.2.2.2.2.2.2.2.2.2.2.2))).trans (hHeld.2.2.2.2.2.2.2.2.2.2.2.2)
                            refine ⟨_, rfl, ?_⟩
                            have n0_ := Aside0.mk (Kd.R_below (by (with_reducible repeat (first | apply Kd.R_alloc | apply Kd.R_drewN | apply Kd.R_drew)); exact HO_12.out) hb)
                            have n1_ := Aside0.mk (Kd.V_below (by (with_reducible repeat (first | apply Kd.V_alloc | apply Kd.V_drewN | apply Kd.V_drew)); exact HO_292000.out) hb)
                            have n2_ := Aside0.mk (Kd.V_below (by (with_reducible repeat (first | apply Kd.V_alloc | apply Kd.V_drewN | apply Kd.V_drew)); exact HO_292001.out) hb)
                            have n3_ := Aside0.mk (blk_below (g := gb291) (o := .cells #[.slice (some ad300) t293.length co14, .slice Ao16 t296.length co16] 29 (0, 0)) (by (with_reducible repeat (first | refine blk_drewN ?_ _ | refine blk_drew ?_ | refine blk_alloc ?_ _)); exact BK291.out) hb)
                            have n4_ := Aside0.mk (blk_below (g := gb308) (o := .cells #[.int .i64 x309000_2, .int .i64 x309001_2, .int .i64 x309002_2, .int .i64 x309003_2, .int .i64 x309004_2, .int .i64 x309005_2, .int .i64 x309006_2] 42 (0, 0)) (by (with_reducible repeat (first | refine blk_drewN ?_ _ | refine blk_drew ?_ | refine blk_alloc ?_ _)); exact BK308.out) hb)
                            have n5_ := Aside0.mk (blk_below (g := gb332) (o := .cells #[.int .i64 0, .int .i64 0, .int .i64 0, .int .i64 0, .int .i64 0, .int .i64 0, .int .i64 0] 42 (0, 0)) (by (with_reducible repeat (first | refine blk_drewN ?_ _ | refine blk_drew ?_ | refine blk_alloc ?_ _)); exact BK332.out) hb)
                            have n6_ := Aside0.mk (below_step (by repeat (first | (with_reducible first | exact HB.out | apply below_alloc | apply pw_below_drewN | apply below_drew1 | refine below_set ?_ GE291.out | refine below_set ?_ GE308.out | refine below_set ?_ GE332.out) | exact HB.out)) hb)
                            clear HO_12
                            clear HO_292000
                            clear HO_292001
                            clear BK291
                            clear BK308
                            clear BK332
                            clear HB
                            have HO_12 := n0_
                            have HO_292000 := n1_
                            have HO_292001 := n2_
                            have BK291 := n3_
                            have BK308 := n4_
                            have BK332 := n5_
                            have HB := n6_
                            clear n0_ n1_ n2_ n3_ n4_ n5_ n6_
                            (try clear hb)
                            (try clear hb2)
                            (try clear hk)
                            (try clear hi)
                            refine hK.out _ _ ⟨(blk_cell BK308.out 0).trans rfl, (blk_cell BK308.out 1).trans rfl, (blk_cell BK308.out 2).trans rfl, (blk_cell BK308.out 3).trans rfl, (blk_cell BK308.out 4).trans rfl, (blk_cell BK308.out 5).trans rfl, (blk_cell BK308.out 6).trans rfl, (blk_cell BK291.out 0).trans rfl, (blk_cell BK291.out 1).trans rfl, HS9_, HS10_, HS11_, HS12_⟩ (fun hHeld => ?_)
                            clear hK K
                            refine norm_ (a' := ?_) ?_ ?_
                            rotate_left
                            ·show Act.put _ (some 90) _ = _
                             simp only [Act.put, List.setIfInBounds_toArray, List.set_cons_zero, List.set_cons_succ, i64_w, i32_w]
                             rfl
                            refine one_ (i := 7) (N := some 91) #[true, true, true, true, true, true, true, true, false, false, false, true, false, false] rfl rfl (one_of HT_.out (by kernel_rfl)) (by decide) (fun K hK => ?_)
                            refine goes_ Try.func18 (by kernel_rfl) rfl #[.agg #[.int .i64 x309000_2, .int .i64 x309001_2, .int .i64 x309002_2, .int .i64 x309003_2, .int .i64 x309004_2, .int .i64 x309005_2, .int .i64 x309006_2], .agg #[.int .i64 t317, .int .i64 t318, .int .i64 t319, .int .i64 t320, .int .i64 t321, .int .i64 t322, .int .i64 t323]] (by rfl) rfl rfl (by (try simp only [List.map_toArray, List.map_cons, List.map_nil]); first | done | rfl | (simp only [List.length_drop, List.length_take]; rfl)) ?_
                            with_reducible refine (meanderref02_Then.calls x309000_2 x309001_2 x309002_2 x309003_2 x309004_2 x309005_2 x309006_2 t317 t318 t319 t320 t321 t322 t323 t324 t325 t326 t327 t328 t329 t330 t331 _ A52.out).mono ?_
                            rintro e w65 ⟨rfl, hb⟩
                            have HS9_ := (hb.cell (World.block_lt_of_cell? _ _ (hHeld.2.2.2.2.2.2.2.2.2.1))).trans (hHeld.2.2.2.2.2.2.2.2.2.1)
                            have HS10_ := (hb.cell (World.block_lt_of_cell? _ _ (hHeld.2.2.2.2.2.2.2.2.2.2.1))).trans (hHeld.2.2.2.2.2.2.2.2.2.2.1)
                            have HS11_ := (hb.cell (World.block_lt_of_cell? _ _ (hHeld.2.2.2.2.2.2.2.2.2.2.2.1))).trans (hHeld.2.2.2.2.2.2.2.2.2.2.2.1)
                            have HS12_ := (hb.cell (World.block_lt_of_cell? _ _ (hHeld.2.2.2.2.2.2.2.2.2.2.2.2))).trans (hHeld.2.2.2.2.2.2.2.2.2.2.2.2)
                            refine ⟨_, rfl, ?_⟩
                            have n0_ := Aside0.mk (Kd.R_below (by (with_reducible repeat (first | apply Kd.R_alloc | apply Kd.R_drewN | apply Kd.R_drew)); exact HO_12.out) hb)
                            have n1_ := Aside0.mk (Kd.V_below (by (with_reducible repeat (first | apply Kd.V_alloc | apply Kd.V_drewN | apply Kd.V_drew)); exact HO_292000.out) hb)
                            have n2_ := Aside0.mk (Kd.V_below (by (with_reducible repeat (first | apply Kd.V_alloc | apply Kd.V_drewN | apply Kd.V_drew)); exact HO_292001.out) hb)
                            have n3_ := Aside0.mk (blk_below (g := gb291) (o := .cells #[.slice (some ad300) t293.length co14, .slice Ao16 t296.length co16] 29 (0, 0)) (by (with_reducible repeat (first | refine blk_drewN ?_ _ | refine blk_drew ?_ | refine blk_alloc ?_ _)); exact BK291.out) hb)
                            have n4_ := Aside0.mk (blk_below (g := gb308) (o := .cells #[.int .i64 x309000_2, .int .i64 x309001_2, .int .i64 x309002_2, .int .i64 x309003_2, .int .i64 x309004_2, .int .i64 x309005_2, .int .i64 x309006_2] 42 (0, 0)) (by (with_reducible repeat (first | refine blk_drewN ?_ _ | refine blk_drew ?_ | refine blk_alloc ?_ _)); exact BK308.out) hb)
                            have n5_ := Aside0.mk (blk_below (g := gb332) (o := .cells #[.int .i64 0, .int .i64 0, .int .i64 0, .int .i64 0, .int .i64 0, .int .i64 0, .int .i64 0] 42 (0, 0)) (by (with_reducible repeat (first | refine blk_drewN ?_ _ | refine blk_drew ?_ | refine blk_alloc ?_ _)); exact BK332.out) hb)
                            have n6_ := Aside0.mk (below_step (by repeat (first | (with_reducible first | exact HB.out | apply below_alloc | apply pw_below_drewN | apply below_drew1 | refine below_set ?_ GE291.out | refine below_set ?_ GE308.out | refine below_set ?_ GE332.out) | exact HB.out)) hb)
                            clear HO_12
                            clear HO_292000
                            clear HO_292001
                            clear BK291
                            clear BK308
                            clear BK332
                            clear HB
                            have HO_12 := n0_
                            have HO_292000 := n1_
                            have HO_292001 := n2_
                            have BK291 := n3_
                            have BK308 := n4_
                            have BK332 := n5_
                            have HB := n6_
                            clear n0_ n1_ n2_ n3_ n4_ n5_ n6_
                            (try clear hb)
                            (try clear hb2)
                            (try clear hk)
                            (try clear hi)
                            refine hK.out _ _ ⟨(blk_cell BK308.out 0).trans rfl, (blk_cell BK308.out 1).trans rfl, (blk_cell BK308.out 2).trans rfl, (blk_cell BK308.out 3).trans rfl, (blk_cell BK308.out 4).trans rfl, (blk_cell BK308.out 5).trans rfl, (blk_cell BK308.out 6).trans rfl, (blk_cell BK291.out 0).trans rfl, (blk_cell BK291.out 1).trans rfl, HS9_, HS10_, HS11_, HS12_⟩ (fun hHeld => ?_)
                            clear hK K
                            refine norm_ (a' := ?_) ?_ ?_
                            rotate_left
                            ·show Act.put _ (some 91) _ = _
                             simp only [Act.put, List.setIfInBounds_toArray, List.set_cons_zero, List.set_cons_succ, i64_w, i32_w]
                             rfl
                            refine pure_ (i := 8) (N := some 83) (v := ?_) (a' := ?_) #[true, true, true, true, true, true, true, true, true, false, false, true, false, false] rfl rfl (any_of HT_.out (by kernel_rfl)) (fun _ _ _ h => h) (Or.inl ⟨by rfl, ?_⟩) ?_ ?_
                            rotate_left
                            ·intro w'
                             go_simp
                             with_reducible rfl
                            rotate_left
                            ·simp only [Act.put, List.setIfInBounds_toArray, List.set_cons_zero, List.set_cons_succ, i64_w, i32_w]
                             rfl
                            refine pure_ (i := 9) (N := some 92) (v := ?_) (a' := ?_) #[true, true, true, true, true, true, true, true, true, true, false, true, false, false] rfl rfl (any_of HT_.out (by kernel_rfl)) (fun _ _ _ h => h) (Or.inl ⟨by rfl, ?_⟩) ?_ ?_
                            rotate_left
                            ·intro w'
                             go_simp
                             with_reducible rfl
                            rotate_left
                            ·simp only [Act.put, List.setIfInBounds_toArray, List.set_cons_zero, List.set_cons_succ, i64_w, i32_w]
                             rfl
                            refine pure_ (i := 10) (N := some 93) (v := ?_) (a' := ?_) #[true, true, true, true, true, true, true, true, true, true, true, true, false, false] rfl rfl (any_of HT_.out (by kernel_rfl)) (fun _ _ _ h => h) (Or.inl ⟨by rfl, ?_⟩) ?_ ?_
                            rotate_left
                            ·intro w'
                             go_simp
                             with_reducible rfl
                            rotate_left
                            ·simp only [Act.put, List.setIfInBounds_toArray, List.set_cons_zero, List.set_cons_succ, i64_w, i32_w]
                             rfl
                            exact norm_ (by simp only [putAll, Act.put, List.setIfInBounds_toArray, List.set_cons_zero, List.set_cons_succ]) (hCont (gb332) _ ⟨hHeld, (by (with_reducible repeat (first | apply Kd.R_alloc | apply Kd.R_drewN | apply Kd.R_drew)); exact HO_12.out), (by (with_reducible repeat (first | apply Kd.V_alloc | apply Kd.V_drewN | apply Kd.V_drew)); exact Kd.V_mono HO_292000.out (fun _ hk => ⟨hk.1.1, ⟨hk.1.2.1, ⟨hk.1.2.2, hk.2⟩⟩⟩)), (by (with_reducible repeat (first | apply Kd.V_alloc | apply Kd.V_drewN | apply Kd.V_drew)); exact Kd.V_mono HO_292001.out (fun _ hk => ⟨hk.1.1, ⟨hk.1.2.1, ⟨hk.1.2.2, hk.2⟩⟩⟩)), (by (with_reducible repeat (first | refine blk_drewN ?_ _ | refine blk_drew ?_ | refine blk_alloc ?_ _)); exact BK291.out), (by (with_reducible repeat (first | refine blk_drewN ?_ _ | refine blk_drew ?_ | refine blk_alloc ?_ _)); exact BK308.out), (by (with_reducible repeat (first | refine blk_drewN ?_ _ | refine blk_drew ?_ | refine blk_alloc ?_ _)); exact BK332.out), GW332.out, GE332.out, NB291_332.out, NB332_291.out, NB308_332.out, NB332_308.out, (by repeat (first | (with_reducible first | exact HB.out | apply below_alloc | apply pw_below_drewN | apply below_drew1 | refine below_set ?_ GE291.out | refine below_set ?_ GE308.out | refine below_set ?_ GE332.out) | exact HB.out))⟩)
                          rintro gb332 w66 ⟨hS_, h0_, h1_, h2_, h3_, h4_, h5_, h6_, h7_, h8_, h9_, h10_, h11_, h12_⟩
                          have n0_ : Aside0 (Kd.R k47 47 w66 w.heap.size (fun _ => True) (.slice (some ad313) t309.length co43) t309) := ⟨h0_⟩
                          have n1_ : Aside0 (Kd.V k23 23 w66 w.heap.size (fun k_ => some k_ ≠ (.slice (some ad313) t309.length co43 : Value).ownBlock ∧ k_ ≠ gb291 ∧ k_ ≠ gb308 ∧ k_ ≠ gb332) (.slice (some ad300) t293.length co14) t293) := ⟨h1_⟩
                          have n2_ : Aside0 (Kd.V k36 36 w66 w.heap.size (fun k_ => some k_ ≠ (.slice (some ad313) t309.length co43 : Value).ownBlock ∧ k_ ≠ gb291 ∧ k_ ≠ gb308 ∧ k_ ≠ gb332) (.slice Ao16 t296.length co16) t296) := ⟨h2_⟩
                          have n3_ : Aside0 (w66.heap[gb291]? = some (.cells #[.slice (some ad300) t293.length co14, .slice Ao16 t296.length co16] 29 (0, 0))) := ⟨h3_⟩
                          have n4_ : Aside0 (w66.heap[gb308]? = some (.cells #[.int .i64 x309000_2, .int .i64 x309001_2, .int .i64 x309002_2, .int .i64 x309003_2, .int .i64 x309004_2, .int .i64 x309005_2, .int .i64 x309006_2] 42 (0, 0))) := ⟨h4_⟩
                          have n5_ : Aside0 (w66.heap[gb332]? = some (.cells #[.int .i64 0, .int .i64 0, .int .i64 0, .int .i64 0, .int .i64 0, .int .i64 0, .int .i64 0] 42 (0, 0))) := ⟨h5_⟩
                          have n6_ : Aside0 (w.heap.size ≤ gb332) := ⟨h6_⟩
                          have n7_ : Aside0 (w.heap.size ≤ gb332) := ⟨h7_⟩
                          have n8_ : Aside0 (gb291 ≠ gb332) := ⟨h8_⟩
                          have n9_ : Aside0 (gb332 ≠ gb291) := ⟨h9_⟩
                          have n10_ : Aside0 (gb308 ≠ gb332) := ⟨h10_⟩
                          have n11_ : Aside0 (gb332 ≠ gb308) := ⟨h11_⟩
                          have n12_ : Aside0 (Below w.heap.size w w66) := ⟨h12_⟩
                          clear HO_12
                          clear HO_292000
                          clear HO_292001
                          clear BK291
                          clear BK308
                          clear HB
                          clear h0_ h1_ h2_ h3_ h4_ h5_ h6_ h7_ h8_ h9_ h10_ h11_ h12_
                          have HO_12 := n0_
                          have HO_292000 := n1_
                          have HO_292001 := n2_
                          have BK291 := n3_
                          have BK308 := n4_
                          have BK332 := n5_
                          have GW332 := n6_
                          have GE332 := n7_
                          have NB291_332 := n8_
                          have NB332_291 := n9_
                          have NB308_332 := n10_
                          have NB332_308 := n11_
                          have HB := n12_
                          clear n0_ n1_ n2_ n3_ n4_ n5_ n6_ n7_ n8_ n9_ n10_ n11_ n12_
                          have hHeld : w66.cell? ⟨gb308, 0, none⟩ = some (.int .i64 x309000_2) ∧ w66.cell? ⟨gb308, 1, none⟩ = some (.int .i64 x309001_2) ∧ w66.cell? ⟨gb308, 2, none⟩ = some (.int .i64 x309002_2) ∧ w66.cell? ⟨gb308, 3, none⟩ = some (.int .i64 x309003_2) ∧ w66.cell? ⟨gb308, 4, none⟩ = some (.int .i64 x309004_2) ∧ w66.cell? ⟨gb308, 5, none⟩ = some (.int .i64 x309005_2) ∧ w66.cell? ⟨gb308, 6, none⟩ = some (.int .i64 x309006_2) ∧ w66.cell? ⟨gb291, 0, none⟩ = some (.slice (some ad300) t293.length co14) ∧ w66.cell? ⟨gb291, 1, none⟩ = some (.slice Ao16 t296.length co16) ∧ w66.cell? (ad300.add ((((rd_T47 t309 x13_38).f0)).toNat * 4)) = some (.int .i64 ((rd_T23 t293 ((rd_T47 t309 x13_38).f0)).f0)) ∧ w66.cell? ⟨(ad300.add ((((rd_T47 t309 x13_38).f0)).toNat * 4)).block, (ad300.add ((((rd_T47 t309 x13_38).f0)).toNat * 4)).off + 1, none⟩ = some (.int .i64 ((rd_T23 t293 ((rd_T47 t309 x13_38).f0)).f1)) ∧ w66.cell? ⟨(ad300.add ((((rd_T47 t309 x13_38).f0)).toNat * 4)).block, (ad300.add ((((rd_T47 t309 x13_38).f0)).toNat * 4)).off + 2, none⟩ = some (.int .i64 ((rd_T23 t293 ((rd_T47 t309 x13_38).f0)).f2)) ∧ w66.cell? ⟨(ad300.add ((((rd_T47 t309 x13_38).f0)).toNat * 4)).block, (ad300.add ((((rd_T47 t309 x13_38).f0)).toNat * 4)).off + 3, none⟩ = some (.int .i64 ((rd_T23 t293 ((rd_T47 t309 x13_38).f0)).f3)) := hS_
                          refine norm_ (a' := ?_) ?_ ?_
                          rotate_left
                          ·simp only [putAll, Act.put, List.setIfInBounds_toArray, List.set_cons_zero, List.set_cons_succ]
                           rfl
                          refine one_ (i := 12) (N := none) #[true, true, true, true, true, true, true, true, true, true, true, true, true, false] rfl rfl (one_of HT_.out (by kernel_rfl)) (by decide) (fun K hK => ?_)
                          have hs67 : w66.cell? ⟨gb332, 0, none⟩ = some (.int .i64 0) := (blk_cell BK332.out 0).trans rfl
                          have hfs67 := blk_frozen BK332.out 0
                          have hns67_0 := NB291_332.out
                          have hns67_1 := NB308_332.out
                          have hms67_0 := NB332_291.out
                          have hms67_1 := NB332_308.out
                          have hs68 : w66.cell? ⟨gb332, 1, none⟩ = some (.int .i64 0) := (blk_cell BK332.out 1).trans rfl
                          have hfs68 := blk_frozen BK332.out 1
                          have hns68_0 := NB291_332.out
                          have hns68_1 := NB308_332.out
                          have hms68_0 := NB332_291.out
                          have hms68_1 := NB332_308.out
                          have hs69 : w66.cell? ⟨gb332, 2, none⟩ = some (.int .i64 0) := (blk_cell BK332.out 2).trans rfl
                          have hfs69 := blk_frozen BK332.out 2
                          have hns69_0 := NB291_332.out
                          have hns69_1 := NB308_332.out
                          have hms69_0 := NB332_291.out
                          have hms69_1 := NB332_308.out
                          have hs70 : w66.cell? ⟨gb332, 3, none⟩ = some (.int .i64 0) := (blk_cell BK332.out 3).trans rfl
                          have hfs70 := blk_frozen BK332.out 3
                          have hns70_0 := NB291_332.out
                          have hns70_1 := NB308_332.out
                          have hms70_0 := NB332_291.out
                          have hms70_1 := NB332_308.out
                          have hs71 : w66.cell? ⟨gb332, 4, none⟩ = some (.int .i64 0) := (blk_cell BK332.out 4).trans rfl
                          have hfs71 := blk_frozen BK332.out 4
                          have hns71_0 := NB291_332.out
                          have hns71_1 := NB308_332.out
                          have hms71_0 := NB332_291.out
                          have hms71_1 := NB332_308.out
                          have hs72 : w66.cell? ⟨gb332, 5, none⟩ = some (.int .i64 0) := (blk_cell BK332.out 5).trans rfl
                          have hfs72 := blk_frozen BK332.out 5
                          have hns72_0 := NB291_332.out
                          have hns72_1 := NB308_332.out
                          have hms72_0 := NB332_291.out
                          have hms72_1 := NB332_308.out
                          have hs73 : w66.cell? ⟨gb332, 6, none⟩ = some (.int .i64 0) := (blk_cell BK332.out 6).trans rfl
                          have hfs73 := blk_frozen BK332.out 6
                          have hns73_0 := NB291_332.out
                          have hns73_1 := NB308_332.out
                          have hms73_0 := NB332_291.out
                          have hms73_1 := NB332_308.out
                          refine skip_ (w1 := ?_) (by rfl) rfl ?_ ?_
                          rotate_left
                          ·go_simp
                           rfl
                          have hfar : ∀ a : Addr, a.block ≠ gb332 → (((((((w66.setCell ⟨gb332, 0, none⟩ (.int .i64 t324)).setCell ⟨gb332, 1, none⟩ (.int .i64 t325)).setCell ⟨gb332, 2, none⟩ (.int .i64 t326)).setCell ⟨gb332, 3, none⟩ (.int .i64 t327)).setCell ⟨gb332, 4, none⟩ (.int .i64 t328)).setCell ⟨gb332, 5, none⟩ (.int .i64 t329)).setCell ⟨gb332, 6, none⟩ (.int .i64 t330)).cell? a = w66.cell? a := fun a ha => far7 ha
                          have hV := (Kd.V_far (p := ⟨gb332, 6, none⟩) (Kd.V_far (p := ⟨gb332, 5, none⟩) (Kd.V_far (p := ⟨gb332, 4, none⟩) (Kd.V_far (p := ⟨gb332, 3, none⟩) (Kd.V_far (p := ⟨gb332, 2, none⟩) (Kd.V_far (p := ⟨gb332, 1, none⟩) (Kd.V_far (p := ⟨gb332, 0, none⟩) HO_292000.out (fun _ hk => hk.2.2.2) (.int .i64 t324)) (fun _ hk => hk.2.2.2) (.int .i64 t325)) (fun _ hk => hk.2.2.2) (.int .i64 t326)) (fun _ hk => hk.2.2.2) (.int .i64 t327)) (fun _ hk => hk.2.2.2) (.int .i64 t328)) (fun _ hk => hk.2.2.2) (.int .i64 t329)) (fun _ hk => hk.2.2.2) (.int .i64 t330))
                          obtain ⟨adz, ez, hz0, hz1, hz2, hz3⟩ := at_T23 (Kd.V_reads' hV).2.2 ((rd_T47 t309 x13_38).f0) (of_eq_true p316) (of_eq_true q316)
                          obtain rfl : ad300 = adz := (by injection ez)
                          have hS2 : (((((((w66.setCell ⟨gb332, 0, none⟩ (.int .i64 t324)).setCell ⟨gb332, 1, none⟩ (.int .i64 t325)).setCell ⟨gb332, 2, none⟩ (.int .i64 t326)).setCell ⟨gb332, 3, none⟩ (.int .i64 t327)).setCell ⟨gb332, 4, none⟩ (.int .i64 t328)).setCell ⟨gb332, 5, none⟩ (.int .i64 t329)).setCell ⟨gb332, 6, none⟩ (.int .i64 t330)).cell? ⟨gb308, 0, none⟩ = some (.int .i64 x309000_2) ∧ (((((((w66.setCell ⟨gb332, 0, none⟩ (.int .i64 t324)).setCell ⟨gb332, 1, none⟩ (.int .i64 t325)).setCell ⟨gb332, 2, none⟩ (.int .i64 t326)).setCell ⟨gb332, 3, none⟩ (.int .i64 t327)).setCell ⟨gb332, 4, none⟩ (.int .i64 t328)).setCell ⟨gb332, 5, none⟩ (.int .i64 t329)).setCell ⟨gb332, 6, none⟩ (.int .i64 t330)).cell? ⟨gb308, 1, none⟩ = some (.int .i64 x309001_2) ∧ (((((((w66.setCell ⟨gb332, 0, none⟩ (.int .i64 t324)).setCell ⟨gb332, 1, none⟩ (.int .i64 t325)).setCell ⟨gb332, 2, none⟩ (.int .i64 t326)).setCell ⟨gb332, 3, none⟩ (.int .i64 t327)).setCell ⟨gb332, 4, none⟩ (.int .i64 t328)).setCell ⟨gb332, 5, none⟩ (.int .i64 t329)).setCell ⟨gb332, 6, none⟩ (.int .i64 t330)).cell? ⟨gb308, 2, none⟩ = some (.int .i64 x309002_2) ∧ (((((((w66.setCell ⟨gb332, 0, none⟩ (.int .i64 t324)).setCell ⟨gb332, 1, none⟩ (.int .i64 t325)).setCell ⟨gb332, 2, none⟩ (.int .i64 t326)).setCell ⟨gb332, 3, none⟩ (.int .i64 t327)).setCell ⟨gb332, 4, none⟩ (.int .i64 t328)).setCell ⟨gb332, 5, none⟩ (.int .i64 t329)).setCell ⟨gb332, 6, none⟩ (.int .i64 t330)).cell? ⟨gb308, 3, none⟩ = some (.int .i64 x309003_2) ∧ (((((((w66.setCell ⟨gb332, 0, none⟩ (.int .i64 t324)).setCell ⟨gb332, 1, none⟩ (.int .i64 t325)).setCell ⟨gb332, 2, none⟩ (.int .i64 t326)).setCell ⟨gb332, 3, none⟩ (.int .i64 t327)).setCell ⟨gb332, 4, none⟩ (.int .i64 t328)).setCell ⟨gb332, 5, none⟩ (.int .i64 t329)).setCell ⟨gb332, 6, none⟩ (.int .i64 t330)).cell? ⟨gb308, 4, none⟩ = some (.int .i64 x309004_2) ∧ (((((((w66.setCell ⟨gb332, 0, none⟩ (.int .i64 t324)).setCell ⟨gb332, 1, none⟩ (.int .i64 t325)).setCell ⟨gb332, 2, none⟩ (.int .i64 t326)).setCell ⟨gb332, 3, none⟩ (.int .i64 t327)).setCell ⟨gb332, 4, none⟩ (.int .i64 t328)).setCell ⟨gb332, 5, none⟩ (.int .i64 t329)).setCell ⟨gb332, 6, none⟩ (.int .i64 t330)).cell? ⟨gb308, 5, none⟩ = some (.int .i64 x309005_2) ∧ (((((((w66.setCell ⟨gb332, 0, none⟩ (.int .i64 t324)).setCell ⟨gb332, 1, none⟩ (.int .i64 t325)).setCell ⟨gb332, 2, none⟩ (.int .i64 t326)).setCell ⟨gb332, 3, none⟩ (.int .i64 t327)).setCell ⟨gb332, 4, none⟩ (.int .i64 t328)).setCell ⟨gb332, 5, none⟩ (.int .i64 t329)).setCell ⟨gb332, 6, none⟩ (.int .i64 t330)).cell? ⟨gb308, 6, none⟩ = some (.int .i64 x309006_2) ∧ (((((((w66.setCell ⟨gb332, 0, none⟩ (.int .i64 t324)).setCell ⟨gb332, 1, none⟩ (.int .i64 t325)).setCell ⟨gb332, 2, none⟩ (.int .i64 t326)).setCell ⟨gb332, 3, none⟩ (.int .i64 t327)).setCell ⟨gb332, 4, none⟩ (.int .i64 t328)).setCell ⟨gb332, 5, none⟩ (.int .i64 t329)).setCell ⟨gb332, 6, none⟩ (.int .i64 t330)).cell? ⟨gb291, 0, none⟩ = some (.slice (some ad300) t293.length co14) ∧ (((((((w66.setCell ⟨gb332, 0, none⟩ (.int .i64 t324)).setCell ⟨gb332, 1, none⟩ (.int .i64 t325)).setCell ⟨gb332, 2, none⟩ (.int .i64 t326)).setCell ⟨gb332, 3, none⟩ (.int .i64 t327)).setCell ⟨gb332, 4, none⟩ (.int .i64 t328)).setCell ⟨gb332, 5, none⟩ (.int .i64 t329)).setCell ⟨gb332, 6, none⟩ (.int .i64 t330)).cell? ⟨gb291, 1, none⟩ = some (.slice Ao16 t296.length co16) ∧ (((((((w66.setCell ⟨gb332, 0, none⟩ (.int .i64 t324)).setCell ⟨gb332, 1, none⟩ (.int .i64 t325)).setCell ⟨gb332, 2, none⟩ (.int .i64 t326)).setCell ⟨gb332, 3, none⟩ (.int .i64 t327)).setCell ⟨gb332, 4, none⟩ (.int .i64 t328)).setCell ⟨gb332, 5, none⟩ (.int .i64 t329)).setCell ⟨gb332, 6, none⟩ (.int .i64 t330)).cell? (ad300.add ((((rd_T47 t309 x13_38).f0)).toNat * 4)) = some (.int .i64 ((rd_T23 t293 ((rd_T47 t309 x13_38).f0)).f0)) ∧ (((((((w66.setCell ⟨gb332, 0, none⟩ (.int .i64 t324)).setCell ⟨gb332, 1, none⟩ (.int .i64 t325)).setCell ⟨gb332, 2, none⟩ (.int .i64 t326)).setCell ⟨gb332, 3, none⟩ (.int .i64 t327)).setCell ⟨gb332, 4, none⟩ (.int .i64 t328)).setCell ⟨gb332, 5, none⟩ (.int .i64 t329)).setCell ⟨gb332, 6, none⟩ (.int .i64 t330)).cell? ⟨(ad300.add ((((rd_T47 t309 x13_38).f0)).toNat * 4)).block, (ad300.add ((((rd_T47 t309 x13_38).f0)).toNat * 4)).off + 1, none⟩ = some (.int .i64 ((rd_T23 t293 ((rd_T47 t309 x13_38).f0)).f1)) ∧ (((((((w66.setCell ⟨gb332, 0, none⟩ (.int .i64 t324)).setCell ⟨gb332, 1, none⟩ (.int .i64 t325)).setCell ⟨gb332, 2, none⟩ (.int .i64 t326)).setCell ⟨gb332, 3, none⟩ (.int .i64 t327)).setCell ⟨gb332, 4, none⟩ (.int .i64 t328)).setCell ⟨gb332, 5, none⟩ (.int .i64 t329)).setCell ⟨gb332, 6, none⟩ (.int .i64 t330)).cell? ⟨(ad300.add ((((rd_T47 t309 x13_38).f0)).toNat * 4)).block, (ad300.add ((((rd_T47 t309 x13_38).f0)).toNat * 4)).off + 2, none⟩ = some (.int .i64 ((rd_T23 t293 ((rd_T47 t309 x13_38).f0)).f2)) ∧ (((((((w66.setCell ⟨gb332, 0, none⟩ (.int .i64 t324)).setCell ⟨gb332, 1, none⟩ (.int .i64 t325)).setCell ⟨gb332, 2, none⟩ (.int .i64 t326)).setCell ⟨gb332, 3, none⟩ (.int .i64 t327)).setCell ⟨gb332, 4, none⟩ (.int .i64 t328)).setCell ⟨gb332, 5, none⟩ (.int .i64 t329)).setCell ⟨gb332, 6, none⟩ (.int .i64 t330)).cell? ⟨(ad300.add ((((rd_T47 t309 x13_38).f0)).toNat * 4)).block, (ad300.add ((((rd_T47 t309 x13_38).f0)).toNat * 4)).off + 3, none⟩ = some (.int .i64 ((rd_T23 t293 ((rd_T47 t309 x13_38).f0)).f3)) := ⟨(hfar _ NB308_332.out).trans hHeld.1, (hfar _ NB308_332.out).trans hHeld.2.1, (hfar _ NB308_332.out).trans hHeld.2.2.1, (hfar _ NB308_332.out).trans hHeld.2.2.2.1, (hfar _ NB308_332.out).trans hHeld.2.2.2.2.1, (hfar _ NB308_332.out).trans hHeld.2.2.2.2.2.1, (hfar _ NB308_332.out).trans hHeld.2.2.2.2.2.2.1, (hfar _ NB291_332.out).trans hHeld.2.2.2.2.2.2.2.1, (hfar _ NB291_332.out).trans hHeld.2.2.2.2.2.2.2.2.1, hz0, hz1, hz2, hz3⟩
                          refine hK.out _ _ hS2 (fun hHeld => ?_)
                          clear hfar hV hz0 hz1 hz2 hz3 hS2
                          clear hK K
                          refine pure_ (i := 13) (N := some 15) (v := ?_) (a' := ?_) #[true, true, true, true, true, true, true, true, true, true, true, true, true, true] rfl rfl (any_of HT_.out (by kernel_rfl)) (fun _ _ _ h => h) (Or.inl ⟨by rfl, ?_⟩) ?_ ?_
                          rotate_left
                          ·intro w'
                           go_simp
                           with_reducible rfl
                          rotate_left
                          ·simp only [Act.put, List.setIfInBounds_toArray, List.set_cons_zero, List.set_cons_succ, i64_w, i32_w]
                           rfl
                          refine done_ (done_of HT_.out (by kernel_rfl)) ?_
                          have hnb74 := NB332_291.out
                          have hnc74 := NB291_332.out
                          have hnb75 := NB332_308.out
                          have hnc75 := NB308_332.out
                          have hcz76_0 : w66.cell? ⟨gb332, 0, none⟩ = some (.int .i64 0) := (blk_cell BK332.out 0).trans rfl
                          have hcz76_1 : w66.cell? ⟨gb332, 1, none⟩ = some (.int .i64 0) := (blk_cell BK332.out 1).trans rfl
                          have hcz76_2 : w66.cell? ⟨gb332, 2, none⟩ = some (.int .i64 0) := (blk_cell BK332.out 2).trans rfl
                          have hcz76_3 : w66.cell? ⟨gb332, 3, none⟩ = some (.int .i64 0) := (blk_cell BK332.out 3).trans rfl
                          have hcz76_4 : w66.cell? ⟨gb332, 4, none⟩ = some (.int .i64 0) := (blk_cell BK332.out 4).trans rfl
                          have hcz76_5 : w66.cell? ⟨gb332, 5, none⟩ = some (.int .i64 0) := (blk_cell BK332.out 5).trans rfl
                          have hcz76_6 : w66.cell? ⟨gb332, 6, none⟩ = some (.int .i64 0) := (blk_cell BK332.out 6).trans rfl
                          have hfz76_0 := blk_frozen BK332.out 0
                          have hfz76_1 := blk_frozen BK332.out 1
                          have hfz76_2 := blk_frozen BK332.out 2
                          have hfz76_3 := blk_frozen BK332.out 3
                          have hfz76_4 := blk_frozen BK332.out 4
                          have hfz76_5 := blk_frozen BK332.out 5
                          have hfz76_6 := blk_frozen BK332.out 6
                          have hcz77_0 : w66.cell? ⟨gb308, 0, none⟩ = some (.int .i64 x309000_2) := (blk_cell BK308.out 0).trans rfl
                          have hcz77_1 : w66.cell? ⟨gb308, 1, none⟩ = some (.int .i64 x309001_2) := (blk_cell BK308.out 1).trans rfl
                          have hcz77_2 : w66.cell? ⟨gb308, 2, none⟩ = some (.int .i64 x309002_2) := (blk_cell BK308.out 2).trans rfl
                          have hcz77_3 : w66.cell? ⟨gb308, 3, none⟩ = some (.int .i64 x309003_2) := (blk_cell BK308.out 3).trans rfl
                          have hcz77_4 : w66.cell? ⟨gb308, 4, none⟩ = some (.int .i64 x309004_2) := (blk_cell BK308.out 4).trans rfl
                          have hcz77_5 : w66.cell? ⟨gb308, 5, none⟩ = some (.int .i64 x309005_2) := (blk_cell BK308.out 5).trans rfl
                          have hcz77_6 : w66.cell? ⟨gb308, 6, none⟩ = some (.int .i64 x309006_2) := (blk_cell BK308.out 6).trans rfl
                          have hfz77_0 := blk_frozen BK308.out 0
                          have hfz77_1 := blk_frozen BK308.out 1
                          have hfz77_2 := blk_frozen BK308.out 2
                          have hfz77_3 := blk_frozen BK308.out 3
                          have hfz77_4 := blk_frozen BK308.out 4
                          have hfz77_5 := blk_frozen BK308.out 5
                          have hfz77_6 := blk_frozen BK308.out 6
                          try go_wp2
                          have n0_ : Aside0 (Kd.R k47 47 ((((((((((((((w66.setCell ⟨gb332, 0, none⟩ (.int .i64 t324)).setCell ⟨gb332, 1, none⟩ (.int .i64 t325)).setCell ⟨gb332, 2, none⟩ (.int .i64 t326)).setCell ⟨gb332, 3, none⟩ (.int .i64 t327)).setCell ⟨gb332, 4, none⟩ (.int .i64 t328)).setCell ⟨gb332, 5, none⟩ (.int .i64 t329)).setCell ⟨gb332, 6, none⟩ (.int .i64 t330)).setCell ⟨gb308, 0, none⟩ (.int .i64 t324)).setCell ⟨gb308, 1, none⟩ (.int .i64 t325)).setCell ⟨gb308, 2, none⟩ (.int .i64 t326)).setCell ⟨gb308, 3, none⟩ (.int .i64 t327)).setCell ⟨gb308, 4, none⟩ (.int .i64 t328)).setCell ⟨gb308, 5, none⟩ (.int .i64 t329)).setCell ⟨gb308, 6, none⟩ (.int .i64 t330)) w.heap.size (fun _ => True) (.slice (some ad313) t309.length co43) t309) := ⟨by (with_reducible repeat (first | apply Kd.R_alloc | apply Kd.R_drewN | apply Kd.R_drew)); exact Kd.R_mono (Kd.R_far (p := ⟨gb308, 6, none⟩) (Kd.R_far (p := ⟨gb308, 5, none⟩) (Kd.R_far (p := ⟨gb308, 4, none⟩) (Kd.R_far (p := ⟨gb308, 3, none⟩) (Kd.R_far (p := ⟨gb308, 2, none⟩) (Kd.R_far (p := ⟨gb308, 1, none⟩) (Kd.R_far (p := ⟨gb308, 0, none⟩) (Kd.R_far (p := ⟨gb332, 6, none⟩) (Kd.R_far (p := ⟨gb332, 5, none⟩) (Kd.R_far (p := ⟨gb332, 4, none⟩) (Kd.R_far (p := ⟨gb332, 3, none⟩) (Kd.R_far (p := ⟨gb332, 2, none⟩) (Kd.R_far (p := ⟨gb332, 1, none⟩) (Kd.R_far (p := ⟨gb332, 0, none⟩) (Kd.R_types (Kd.R_types HO_12.out BK332.out (by decide)) BK308.out (by decide)) (fun _ hk => hk.1.2) (.int .i64 t324)) (fun _ hk => hk.1.2) (.int .i64 t325)) (fun _ hk => hk.1.2) (.int .i64 t326)) (fun _ hk => hk.1.2) (.int .i64 t327)) (fun _ hk => hk.1.2) (.int .i64 t328)) (fun _ hk => hk.1.2) (.int .i64 t329)) (fun _ hk => hk.1.2) (.int .i64 t330)) (fun _ hk => hk.2) (.int .i64 t324)) (fun _ hk => hk.2) (.int .i64 t325)) (fun _ hk => hk.2) (.int .i64 t326)) (fun _ hk => hk.2) (.int .i64 t327)) (fun _ hk => hk.2) (.int .i64 t328)) (fun _ hk => hk.2) (.int .i64 t329)) (fun _ hk => hk.2) (.int .i64 t330)) (fun _ hk => trivial)⟩
                          have n1_ : Aside0 (Kd.V k23 23 ((((((((((((((w66.setCell ⟨gb332, 0, none⟩ (.int .i64 t324)).setCell ⟨gb332, 1, none⟩ (.int .i64 t325)).setCell ⟨gb332, 2, none⟩ (.int .i64 t326)).setCell ⟨gb332, 3, none⟩ (.int .i64 t327)).setCell ⟨gb332, 4, none⟩ (.int .i64 t328)).setCell ⟨gb332, 5, none⟩ (.int .i64 t329)).setCell ⟨gb332, 6, none⟩ (.int .i64 t330)).setCell ⟨gb308, 0, none⟩ (.int .i64 t324)).setCell ⟨gb308, 1, none⟩ (.int .i64 t325)).setCell ⟨gb308, 2, none⟩ (.int .i64 t326)).setCell ⟨gb308, 3, none⟩ (.int .i64 t327)).setCell ⟨gb308, 4, none⟩ (.int .i64 t328)).setCell ⟨gb308, 5, none⟩ (.int .i64 t329)).setCell ⟨gb308, 6, none⟩ (.int .i64 t330)) w.heap.size (fun k_ => some k_ ≠ (.slice (some ad313) t309.length co43 : Value).ownBlock ∧ k_ ≠ gb291 ∧ k_ ≠ gb308 ∧ k_ ≠ gb332) (.slice (some ad300) t293.length co14) t293) := ⟨by (with_reducible repeat (first | apply Kd.V_alloc | apply Kd.V_drewN | apply Kd.V_drew)); exact Kd.V_mono (Kd.V_far (p := ⟨gb308, 6, none⟩) (Kd.V_far (p := ⟨gb308, 5, none⟩) (Kd.V_far (p := ⟨gb308, 4, none⟩) (Kd.V_far (p := ⟨gb308, 3, none⟩) (Kd.V_far (p := ⟨gb308, 2, none⟩) (Kd.V_far (p := ⟨gb308, 1, none⟩) (Kd.V_far (p := ⟨gb308, 0, none⟩) (Kd.V_far (p := ⟨gb332, 6, none⟩) (Kd.V_far (p := ⟨gb332, 5, none⟩) (Kd.V_far (p := ⟨gb332, 4, none⟩) (Kd.V_far (p := ⟨gb332, 3, none⟩) (Kd.V_far (p := ⟨gb332, 2, none⟩) (Kd.V_far (p := ⟨gb332, 1, none⟩) (Kd.V_far (p := ⟨gb332, 0, none⟩) (Kd.V_mono (Kd.V_mono HO_292000.out (fun k_ hk => (⟨hk, hk.2.2.2⟩ : _ ∧ k_ ≠ gb332))) (fun k_ hk => (⟨hk, hk.1.2.2.1⟩ : _ ∧ k_ ≠ gb308))) (fun _ hk => hk.1.2) (.int .i64 t324)) (fun _ hk => hk.1.2) (.int .i64 t325)) (fun _ hk => hk.1.2) (.int .i64 t326)) (fun _ hk => hk.1.2) (.int .i64 t327)) (fun _ hk => hk.1.2) (.int .i64 t328)) (fun _ hk => hk.1.2) (.int .i64 t329)) (fun _ hk => hk.1.2) (.int .i64 t330)) (fun _ hk => hk.2) (.int .i64 t324)) (fun _ hk => hk.2) (.int .i64 t325)) (fun _ hk => hk.2) (.int .i64 t326)) (fun _ hk => hk.2) (.int .i64 t327)) (fun _ hk => hk.2) (.int .i64 t328)) (fun _ hk => hk.2) (.int .i64 t329)) (fun _ hk => hk.2) (.int .i64 t330)) (fun _ hk => ⟨hk.1.1.1, ⟨hk.1.1.2.1, ⟨hk.1.1.2.2.1, hk.1.1.2.2.2⟩⟩⟩)⟩
                          have n2_ : Aside0 (Kd.V k36 36 ((((((((((((((w66.setCell ⟨gb332, 0, none⟩ (.int .i64 t324)).setCell ⟨gb332, 1, none⟩ (.int .i64 t325)).setCell ⟨gb332, 2, none⟩ (.int .i64 t326)).setCell ⟨gb332, 3, none⟩ (.int .i64 t327)).setCell ⟨gb332, 4, none⟩ (.int .i64 t328)).setCell ⟨gb332, 5, none⟩ (.int .i64 t329)).setCell ⟨gb332, 6, none⟩ (.int .i64 t330)).setCell ⟨gb308, 0, none⟩ (.int .i64 t324)).setCell ⟨gb308, 1, none⟩ (.int .i64 t325)).setCell ⟨gb308, 2, none⟩ (.int .i64 t326)).setCell ⟨gb308, 3, none⟩ (.int .i64 t327)).setCell ⟨gb308, 4, none⟩ (.int .i64 t328)).setCell ⟨gb308, 5, none⟩ (.int .i64 t329)).setCell ⟨gb308, 6, none⟩ (.int .i64 t330)) w.heap.size (fun k_ => some k_ ≠ (.slice (some ad313) t309.length co43 : Value).ownBlock ∧ k_ ≠ gb291 ∧ k_ ≠ gb308 ∧ k_ ≠ gb332) (.slice Ao16 t296.length co16) t296) := ⟨by (with_reducible repeat (first | apply Kd.V_alloc | apply Kd.V_drewN | apply Kd.V_drew)); exact Kd.V_mono (Kd.V_far (p := ⟨gb308, 6, none⟩) (Kd.V_far (p := ⟨gb308, 5, none⟩) (Kd.V_far (p := ⟨gb308, 4, none⟩) (Kd.V_far (p := ⟨gb308, 3, none⟩) (Kd.V_far (p := ⟨gb308, 2, none⟩) (Kd.V_far (p := ⟨gb308, 1, none⟩) (Kd.V_far (p := ⟨gb308, 0, none⟩) (Kd.V_far (p := ⟨gb332, 6, none⟩) (Kd.V_far (p := ⟨gb332, 5, none⟩) (Kd.V_far (p := ⟨gb332, 4, none⟩) (Kd.V_far (p := ⟨gb332, 3, none⟩) (Kd.V_far (p := ⟨gb332, 2, none⟩) (Kd.V_far (p := ⟨gb332, 1, none⟩) (Kd.V_far (p := ⟨gb332, 0, none⟩) (Kd.V_mono (Kd.V_mono HO_292001.out (fun k_ hk => (⟨hk, hk.2.2.2⟩ : _ ∧ k_ ≠ gb332))) (fun k_ hk => (⟨hk, hk.1.2.2.1⟩ : _ ∧ k_ ≠ gb308))) (fun _ hk => hk.1.2) (.int .i64 t324)) (fun _ hk => hk.1.2) (.int .i64 t325)) (fun _ hk => hk.1.2) (.int .i64 t326)) (fun _ hk => hk.1.2) (.int .i64 t327)) (fun _ hk => hk.1.2) (.int .i64 t328)) (fun _ hk => hk.1.2) (.int .i64 t329)) (fun _ hk => hk.1.2) (.int .i64 t330)) (fun _ hk => hk.2) (.int .i64 t324)) (fun _ hk => hk.2) (.int .i64 t325)) (fun _ hk => hk.2) (.int .i64 t326)) (fun _ hk => hk.2) (.int .i64 t327)) (fun _ hk => hk.2) (.int .i64 t328)) (fun _ hk => hk.2) (.int .i64 t329)) (fun _ hk => hk.2) (.int .i64 t330)) (fun _ hk => ⟨hk.1.1.1, ⟨hk.1.1.2.1, ⟨hk.1.1.2.2.1, hk.1.1.2.2.2⟩⟩⟩)⟩
                          have n3_ : Aside0 (((((((((((((((w66.setCell ⟨gb332, 0, none⟩ (.int .i64 t324)).setCell ⟨gb332, 1, none⟩ (.int .i64 t325)).setCell ⟨gb332, 2, none⟩ (.int .i64 t326)).setCell ⟨gb332, 3, none⟩ (.int .i64 t327)).setCell ⟨gb332, 4, none⟩ (.int .i64 t328)).setCell ⟨gb332, 5, none⟩ (.int .i64 t329)).setCell ⟨gb332, 6, none⟩ (.int .i64 t330)).setCell ⟨gb308, 0, none⟩ (.int .i64 t324)).setCell ⟨gb308, 1, none⟩ (.int .i64 t325)).setCell ⟨gb308, 2, none⟩ (.int .i64 t326)).setCell ⟨gb308, 3, none⟩ (.int .i64 t327)).setCell ⟨gb308, 4, none⟩ (.int .i64 t328)).setCell ⟨gb308, 5, none⟩ (.int .i64 t329)).setCell ⟨gb308, 6, none⟩ (.int .i64 t330)).heap[gb291]? = some (.cells #[.slice (some ad300) t293.length co14, .slice Ao16 t296.length co16] 29 (0, 0))) := ⟨by (with_reducible repeat (first | refine blk_drewN ?_ _ | refine blk_drew ?_ | refine blk_alloc ?_ _)); refine blk_far ?_ NB291_308.out _; (with_reducible repeat (first | refine blk_drewN ?_ _ | refine blk_drew ?_ | refine blk_alloc ?_ _)); refine blk_far ?_ NB291_308.out _; (with_reducible repeat (first | refine blk_drewN ?_ _ | refine blk_drew ?_ | refine blk_alloc ?_ _)); refine blk_far ?_ NB291_308.out _; (with_reducible repeat (first | refine blk_drewN ?_ _ | refine blk_drew ?_ | refine blk_alloc ?_ _)); refine blk_far ?_ NB291_308.out _; (with_reducible repeat (first | refine blk_drewN ?_ _ | refine blk_drew ?_ | refine blk_alloc ?_ _)); refine blk_far ?_ NB291_308.out _; (with_reducible repeat (first | refine blk_drewN ?_ _ | refine blk_drew ?_ | refine blk_alloc ?_ _)); refine blk_far ?_ NB291_308.out _; (with_reducible repeat (first | refine blk_drewN ?_ _ | refine blk_drew ?_ | refine blk_alloc ?_ _)); refine blk_far ?_ NB291_308.out _; (with_reducible repeat (first | refine blk_drewN ?_ _ | refine blk_drew ?_ | refine blk_alloc ?_ _)); refine blk_far ?_ NB291_332.out _; (with_reducible repeat (first | refine blk_drewN ?_ _ | refine blk_drew ?_ | refine blk_alloc ?_ _)); refine blk_far ?_ NB291_332.out _; (with_reducible repeat (first | refine blk_drewN ?_ _ | refine blk_drew ?_ | refine blk_alloc ?_ _)); refine blk_far ?_ NB291_332.out _; (with_reducible repeat (first | refine blk_drewN ?_ _ | refine blk_drew ?_ | refine blk_alloc ?_ _)); refine blk_far ?_ NB291_332.out _; (with_reducible repeat (first | refine blk_drewN ?_ _ | refine blk_drew ?_ | refine blk_alloc ?_ _)); refine blk_far ?_ NB291_332.out _; (with_reducible repeat (first | refine blk_drewN ?_ _ | refine blk_drew ?_ | refine blk_alloc ?_ _)); refine blk_far ?_ NB291_332.out _; (with_reducible repeat (first | refine blk_drewN ?_ _ | refine blk_drew ?_ | refine blk_alloc ?_ _)); refine blk_far ?_ NB291_332.out _; (with_reducible repeat (first | refine blk_drewN ?_ _ | refine blk_drew ?_ | refine blk_alloc ?_ _)); exact BK291.out⟩
                          have n4_ : Aside0 (((((((((((((((w66.setCell ⟨gb332, 0, none⟩ (.int .i64 t324)).setCell ⟨gb332, 1, none⟩ (.int .i64 t325)).setCell ⟨gb332, 2, none⟩ (.int .i64 t326)).setCell ⟨gb332, 3, none⟩ (.int .i64 t327)).setCell ⟨gb332, 4, none⟩ (.int .i64 t328)).setCell ⟨gb332, 5, none⟩ (.int .i64 t329)).setCell ⟨gb332, 6, none⟩ (.int .i64 t330)).setCell ⟨gb308, 0, none⟩ (.int .i64 t324)).setCell ⟨gb308, 1, none⟩ (.int .i64 t325)).setCell ⟨gb308, 2, none⟩ (.int .i64 t326)).setCell ⟨gb308, 3, none⟩ (.int .i64 t327)).setCell ⟨gb308, 4, none⟩ (.int .i64 t328)).setCell ⟨gb308, 5, none⟩ (.int .i64 t329)).setCell ⟨gb308, 6, none⟩ (.int .i64 t330)).heap[gb308]? = some (.cells #[.int .i64 t324, .int .i64 t325, .int .i64 t326, .int .i64 t327, .int .i64 t328, .int .i64 t329, .int .i64 t330] 42 (0, 0))) := ⟨by (with_reducible repeat (first | refine blk_drewN ?_ _ | refine blk_drew ?_ | refine blk_alloc ?_ _)); refine blk_put (cs := #[.int .i64 t324, .int .i64 t325, .int .i64 t326, .int .i64 t327, .int .i64 t328, .int .i64 t329, .int .i64 x309006_2]) ?_ 6 _ rfl; (with_reducible repeat (first | refine blk_drewN ?_ _ | refine blk_drew ?_ | refine blk_alloc ?_ _)); refine blk_put (cs := #[.int .i64 t324, .int .i64 t325, .int .i64 t326, .int .i64 t327, .int .i64 t328, .int .i64 x309005_2, .int .i64 x309006_2]) ?_ 5 _ rfl; (with_reducible repeat (first | refine blk_drewN ?_ _ | refine blk_drew ?_ | refine blk_alloc ?_ _)); refine blk_put (cs := #[.int .i64 t324, .int .i64 t325, .int .i64 t326, .int .i64 t327, .int .i64 x309004_2, .int .i64 x309005_2, .int .i64 x309006_2]) ?_ 4 _ rfl; (with_reducible repeat (first | refine blk_drewN ?_ _ | refine blk_drew ?_ | refine blk_alloc ?_ _)); refine blk_put (cs := #[.int .i64 t324, .int .i64 t325, .int .i64 t326, .int .i64 x309003_2, .int .i64 x309004_2, .int .i64 x309005_2, .int .i64 x309006_2]) ?_ 3 _ rfl; (with_reducible repeat (first | refine blk_drewN ?_ _ | refine blk_drew ?_ | refine blk_alloc ?_ _)); refine blk_put (cs := #[.int .i64 t324, .int .i64 t325, .int .i64 x309002_2, .int .i64 x309003_2, .int .i64 x309004_2, .int .i64 x309005_2, .int .i64 x309006_2]) ?_ 2 _ rfl; (with_reducible repeat (first | refine blk_drewN ?_ _ | refine blk_drew ?_ | refine blk_alloc ?_ _)); refine blk_put (cs := #[.int .i64 t324, .int .i64 x309001_2, .int .i64 x309002_2, .int .i64 x309003_2, .int .i64 x309004_2, .int .i64 x309005_2, .int .i64 x309006_2]) ?_ 1 _ rfl; (with_reducible repeat (first | refine blk_drewN ?_ _ | refine blk_drew ?_ | refine blk_alloc ?_ _)); refine blk_put (cs := #[.int .i64 x309000_2, .int .i64 x309001_2, .int .i64 x309002_2, .int .i64 x309003_2, .int .i64 x309004_2, .int .i64 x309005_2, .int .i64 x309006_2]) ?_ 0 _ rfl; (with_reducible repeat (first | refine blk_drewN ?_ _ | refine blk_drew ?_ | refine blk_alloc ?_ _)); refine blk_far ?_ NB308_332.out _; (with_reducible repeat (first | refine blk_drewN ?_ _ | refine blk_drew ?_ | refine blk_alloc ?_ _)); refine blk_far ?_ NB308_332.out _; (with_reducible repeat (first | refine blk_drewN ?_ _ | refine blk_drew ?_ | refine blk_alloc ?_ _)); refine blk_far ?_ NB308_332.out _; (with_reducible repeat (first | refine blk_drewN ?_ _ | refine blk_drew ?_ | refine blk_alloc ?_ _)); refine blk_far ?_ NB308_332.out _; (with_reducible repeat (first | refine blk_drewN ?_ _ | refine blk_drew ?_ | refine blk_alloc ?_ _)); refine blk_far ?_ NB308_332.out _; (with_reducible repeat (first | refine blk_drewN ?_ _ | refine blk_drew ?_ | refine blk_alloc ?_ _)); refine blk_far ?_ NB308_332.out _; (with_reducible repeat (first | refine blk_drewN ?_ _ | refine blk_drew ?_ | refine blk_alloc ?_ _)); refine blk_far ?_ NB308_332.out _; (with_reducible repeat (first | refine blk_drewN ?_ _ | refine blk_drew ?_ | refine blk_alloc ?_ _)); exact BK308.out⟩
                          have n5_ : Aside0 (((((((((((((((w66.setCell ⟨gb332, 0, none⟩ (.int .i64 t324)).setCell ⟨gb332, 1, none⟩ (.int .i64 t325)).setCell ⟨gb332, 2, none⟩ (.int .i64 t326)).setCell ⟨gb332, 3, none⟩ (.int .i64 t327)).setCell ⟨gb332, 4, none⟩ (.int .i64 t328)).setCell ⟨gb332, 5, none⟩ (.int .i64 t329)).setCell ⟨gb332, 6, none⟩ (.int .i64 t330)).setCell ⟨gb308, 0, none⟩ (.int .i64 t324)).setCell ⟨gb308, 1, none⟩ (.int .i64 t325)).setCell ⟨gb308, 2, none⟩ (.int .i64 t326)).setCell ⟨gb308, 3, none⟩ (.int .i64 t327)).setCell ⟨gb308, 4, none⟩ (.int .i64 t328)).setCell ⟨gb308, 5, none⟩ (.int .i64 t329)).setCell ⟨gb308, 6, none⟩ (.int .i64 t330)).heap[gb332]? = some (.cells #[.int .i64 t324, .int .i64 t325, .int .i64 t326, .int .i64 t327, .int .i64 t328, .int .i64 t329, .int .i64 t330] 42 (0, 0))) := ⟨by (with_reducible repeat (first | refine blk_drewN ?_ _ | refine blk_drew ?_ | refine blk_alloc ?_ _)); refine blk_far ?_ NB332_308.out _; (with_reducible repeat (first | refine blk_drewN ?_ _ | refine blk_drew ?_ | refine blk_alloc ?_ _)); refine blk_far ?_ NB332_308.out _; (with_reducible repeat (first | refine blk_drewN ?_ _ | refine blk_drew ?_ | refine blk_alloc ?_ _)); refine blk_far ?_ NB332_308.out _; (with_reducible repeat (first | refine blk_drewN ?_ _ | refine blk_drew ?_ | refine blk_alloc ?_ _)); refine blk_far ?_ NB332_308.out _; (with_reducible repeat (first | refine blk_drewN ?_ _ | refine blk_drew ?_ | refine blk_alloc ?_ _)); refine blk_far ?_ NB332_308.out _; (with_reducible repeat (first | refine blk_drewN ?_ _ | refine blk_drew ?_ | refine blk_alloc ?_ _)); refine blk_far ?_ NB332_308.out _; (with_reducible repeat (first | refine blk_drewN ?_ _ | refine blk_drew ?_ | refine blk_alloc ?_ _)); refine blk_far ?_ NB332_308.out _; (with_reducible repeat (first | refine blk_drewN ?_ _ | refine blk_drew ?_ | refine blk_alloc ?_ _)); refine blk_put (cs := #[.int .i64 t324, .int .i64 t325, .int .i64 t326, .int .i64 t327, .int .i64 t328, .int .i64 t329, .int .i64 0]) ?_ 6 _ rfl; (with_reducible repeat (first | refine blk_drewN ?_ _ | refine blk_drew ?_ | refine blk_alloc ?_ _)); refine blk_put (cs := #[.int .i64 t324, .int .i64 t325, .int .i64 t326, .int .i64 t327, .int .i64 t328, .int .i64 0, .int .i64 0]) ?_ 5 _ rfl; (with_reducible repeat (first | refine blk_drewN ?_ _ | refine blk_drew ?_ | refine blk_alloc ?_ _)); refine blk_put (cs := #[.int .i64 t324, .int .i64 t325, .int .i64 t326, .int .i64 t327, .int .i64 0, .int .i64 0, .int .i64 0]) ?_ 4 _ rfl; (with_reducible repeat (first | refine blk_drewN ?_ _ | refine blk_drew ?_ | refine blk_alloc ?_ _)); refine blk_put (cs := #[.int .i64 t324, .int .i64 t325, .int .i64 t326, .int .i64 0, .int .i64 0, .int .i64 0, .int .i64 0]) ?_ 3 _ rfl; (with_reducible repeat (first | refine blk_drewN ?_ _ | refine blk_drew ?_ | refine blk_alloc ?_ _)); refine blk_put (cs := #[.int .i64 t324, .int .i64 t325, .int .i64 0, .int .i64 0, .int .i64 0, .int .i64 0, .int .i64 0]) ?_ 2 _ rfl; (with_reducible repeat (first | refine blk_drewN ?_ _ | refine blk_drew ?_ | refine blk_alloc ?_ _)); refine blk_put (cs := #[.int .i64 t324, .int .i64 0, .int .i64 0, .int .i64 0, .int .i64 0, .int .i64 0, .int .i64 0]) ?_ 1 _ rfl; (with_reducible repeat (first | refine blk_drewN ?_ _ | refine blk_drew ?_ | refine blk_alloc ?_ _)); refine blk_put (cs := #[.int .i64 0, .int .i64 0, .int .i64 0, .int .i64 0, .int .i64 0, .int .i64 0, .int .i64 0]) ?_ 0 _ rfl; (with_reducible repeat (first | refine blk_drewN ?_ _ | refine blk_drew ?_ | refine blk_alloc ?_ _)); exact BK332.out⟩
                          have n6_ : Aside0 (Below w.heap.size w ((((((((((((((w66.setCell ⟨gb332, 0, none⟩ (.int .i64 t324)).setCell ⟨gb332, 1, none⟩ (.int .i64 t325)).setCell ⟨gb332, 2, none⟩ (.int .i64 t326)).setCell ⟨gb332, 3, none⟩ (.int .i64 t327)).setCell ⟨gb332, 4, none⟩ (.int .i64 t328)).setCell ⟨gb332, 5, none⟩ (.int .i64 t329)).setCell ⟨gb332, 6, none⟩ (.int .i64 t330)).setCell ⟨gb308, 0, none⟩ (.int .i64 t324)).setCell ⟨gb308, 1, none⟩ (.int .i64 t325)).setCell ⟨gb308, 2, none⟩ (.int .i64 t326)).setCell ⟨gb308, 3, none⟩ (.int .i64 t327)).setCell ⟨gb308, 4, none⟩ (.int .i64 t328)).setCell ⟨gb308, 5, none⟩ (.int .i64 t329)).setCell ⟨gb308, 6, none⟩ (.int .i64 t330))) := ⟨by repeat (first | (with_reducible first | exact HB.out | apply below_alloc | apply pw_below_drewN | apply below_drew1 | refine below_set ?_ GE291.out | refine below_set ?_ GE308.out | refine below_set ?_ GE332.out) | exact HB.out)⟩
                          (try clear HO_12)
                          (try clear HO_292000)
                          (try clear HO_292001)
                          (try clear BK291)
                          (try clear BK308)
                          (try clear BK332)
                          (try clear HB)
                          generalize ((((((((((((((w66.setCell ⟨gb332, 0, none⟩ (.int .i64 t324)).setCell ⟨gb332, 1, none⟩ (.int .i64 t325)).setCell ⟨gb332, 2, none⟩ (.int .i64 t326)).setCell ⟨gb332, 3, none⟩ (.int .i64 t327)).setCell ⟨gb332, 4, none⟩ (.int .i64 t328)).setCell ⟨gb332, 5, none⟩ (.int .i64 t329)).setCell ⟨gb332, 6, none⟩ (.int .i64 t330)).setCell ⟨gb308, 0, none⟩ (.int .i64 t324)).setCell ⟨gb308, 1, none⟩ (.int .i64 t325)).setCell ⟨gb308, 2, none⟩ (.int .i64 t326)).setCell ⟨gb308, 3, none⟩ (.int .i64 t327)).setCell ⟨gb308, 4, none⟩ (.int .i64 t328)).setCell ⟨gb308, 5, none⟩ (.int .i64 t329)).setCell ⟨gb308, 6, none⟩ (.int .i64 t330)) = w78 at n0_ n1_ n2_ n3_ n4_ n5_ n6_ ⊢
                          have HO_12 := n0_
                          have HO_292000 := n1_
                          have HO_292001 := n2_
                          have BK291 := n3_
                          have BK308 := n4_
                          have BK332 := n5_
                          have HB := n6_
                          clear n0_ n1_ n2_ n3_ n4_ n5_ n6_
                          have n0_ := Aside0.mk (Kd.R_drew HO_12.out)
                          have n1_ := Aside0.mk (Kd.V_drew HO_292000.out)
                          have n2_ := Aside0.mk (Kd.V_drew HO_292001.out)
                          have n3_ := Aside0.mk (blk_drew BK291.out)
                          have n4_ := Aside0.mk (blk_drew BK308.out)
                          have n5_ := Aside0.mk (blk_drew BK332.out)
                          have n6_ := Aside0.mk (below_drew1 HB.out)
                          clear HO_12
                          clear HO_292000
                          clear HO_292001
                          clear BK291
                          clear BK308
                          clear BK332
                          clear HB
                          have HO_12 := n0_
                          have HO_292000 := n1_
                          have HO_292001 := n2_
                          have BK291 := n3_
                          have BK308 := n4_
                          have BK332 := n5_
                          have HB := n6_
                          clear n0_ n1_ n2_ n3_ n4_ n5_ n6_
                          have p333 : 0 ≤ (x8_8 : Int) := of_decide_eq_true (by first | (with_reducible assumption) | assumption)
                          have q333 : x8_8 < (t293.length : Int) := of_decide_eq_true (by first | (with_reducible assumption) | assumption)
                          obtain ⟨ad333, e333, hx333_0, hx333_1, hx333_2, hx333_3⟩ := at_T23 (Kd.V_reads' HO_292000.out).2.2 x8_8 p333 q333
                          obtain rfl : ad300 = ad333 := (by injection e333)
                          replace p333 := eq_true p333
                          replace q333 := eq_true q333
                          refine start_ (n := 10) (S := fun w' => w'.cell? ⟨gb308, 0, none⟩ = some (.int .i64 t324) ∧ w'.cell? ⟨gb308, 1, none⟩ = some (.int .i64 t325) ∧ w'.cell? ⟨gb308, 2, none⟩ = some (.int .i64 t326) ∧ w'.cell? ⟨gb308, 3, none⟩ = some (.int .i64 t327) ∧ w'.cell? ⟨gb308, 4, none⟩ = some (.int .i64 t328) ∧ w'.cell? ⟨gb308, 5, none⟩ = some (.int .i64 t329) ∧ w'.cell? ⟨gb308, 6, none⟩ = some (.int .i64 t330) ∧ w'.cell? ⟨gb291, 0, none⟩ = some (.slice (some ad300) t293.length co14) ∧ w'.cell? ⟨gb291, 1, none⟩ = some (.slice Ao16 t296.length co16) ∧ w'.cell? (ad300.add ((x8_8).toNat * 4)) = some (.int .i64 ((rd_T23 t293 x8_8).f0)) ∧ w'.cell? ⟨(ad300.add ((x8_8).toNat * 4)).block, (ad300.add ((x8_8).toNat * 4)).off + 1, none⟩ = some (.int .i64 ((rd_T23 t293 x8_8).f1)) ∧ w'.cell? ⟨(ad300.add ((x8_8).toNat * 4)).block, (ad300.add ((x8_8).toNat * 4)).off + 2, none⟩ = some (.int .i64 ((rd_T23 t293 x8_8).f2)) ∧ w'.cell? ⟨(ad300.add ((x8_8).toNat * 4)).block, (ad300.add ((x8_8).toNat * 4)).off + 3, none⟩ = some (.int .i64 ((rd_T23 t293 x8_8).f3))) (ds := []) #[false, false, false, false, false, false, false, false, false, false] (by kernel_rfl) rfl rfl ⟨(blk_cell BK308.out 0).trans rfl, (blk_cell BK308.out 1).trans rfl, (blk_cell BK308.out 2).trans rfl, (blk_cell BK308.out 3).trans rfl, (blk_cell BK308.out 4).trans rfl, (blk_cell BK308.out 5).trans rfl, (blk_cell BK308.out 6).trans rfl, (blk_cell BK291.out 0).trans rfl, (blk_cell BK291.out 1).trans rfl, hx333_0, hx333_1, hx333_2, hx333_3⟩ (fun hHeld => ?_); refine with_tabW meanderlaw09_ValidRound_Rnd.tab26 meanderlaw09_ValidRound_Rnd.bits26 (fun HT_ HW_ => ?_)
                          generalize w78.drew = w79 at HO_12 HO_292000 HO_292001 BK291 BK308 BK332 HB hx333_0 hx333_1 hx333_2 hx333_3 hHeld ⊢
                          refine pure_ (i := 1) (N := some 98) (v := ?_) (a' := ?_) #[false, true, false, false, false, false, false, false, false, false] rfl rfl (any_of HT_.out (by kernel_rfl)) (fun _ _ _ h => h) (Or.inl ⟨by rfl, ?_⟩) ?_ ?_
                          rotate_left
                          ·intro w'
                           go_simp
                           with_reducible rfl
                          rotate_left
                          ·simp only [Act.put, List.setIfInBounds_toArray, List.set_cons_zero, List.set_cons_succ, i64_w, i32_w]
                           rfl
                          refine pure_ (i := 3) (N := some 100) (v := ?_) (a' := ?_) #[false, true, false, true, false, false, false, false, false, false] rfl rfl (any_of HT_.out (by kernel_rfl)) (fun _ _ _ h => h) (Or.inl ⟨by rfl, ?_⟩) ?_ ?_
                          rotate_left
                          ·intro w'
                           go_simp
                           with_reducible rfl
                          rotate_left
                          ·simp only [Act.put, List.setIfInBounds_toArray, List.set_cons_zero, List.set_cons_succ, i64_w, i32_w]
                           rfl
                          refine take_ (i := 0) (N := some 97) (v := ?_) (a' := ?_) #[true, true, false, true, false, false, false, false, false, false] rfl rfl (take_ofW HT_.out HW_.out (by kernel_rfl)) (fun _ _ _ h => h) (Or.inl ⟨by rfl, ?_⟩) hHeld ?_ ?_
                          rotate_left
                          ·rintro w' ⟨s0, s1, s2, s3, s4, s5, s6, s7, s8, s9, s10, s11, s12⟩
                           go_simp
                           with_reducible rfl
                          rotate_left
                          ·simp only [Act.put, List.setIfInBounds_toArray, List.set_cons_zero, List.set_cons_succ, i64_w, i32_w]
                           rfl
                          refine take_ (i := 2) (N := some 99) (v := ?_) (a' := ?_) #[true, true, true, true, false, false, false, false, false, false] rfl rfl (take_ofW HT_.out HW_.out (by kernel_rfl)) (fun _ _ _ h => h) (Or.inl ⟨by rfl, ?_⟩) hHeld ?_ ?_
                          rotate_left
                          ·rintro w' ⟨s0, s1, s2, s3, s4, s5, s6, s7, s8, s9, s10, s11, s12⟩
                           go_simp
                           with_reducible rfl
                          rotate_left
                          ·simp only [Act.put, List.setIfInBounds_toArray, List.set_cons_zero, List.set_cons_succ, i64_w, i32_w]
                           rfl
                          refine pure_ (i := 4) (N := some 101) (v := ?_) (a' := ?_) #[true, true, true, true, true, false, false, false, false, false] rfl rfl (any_of HT_.out (by kernel_rfl)) (fun _ _ _ h => h) (Or.inl ⟨by rfl, ?_⟩) ?_ ?_
                          rotate_left
                          ·intro w'
                           go_simp
                           with_reducible rfl
                          rotate_left
                          ·simp only [Act.put, List.setIfInBounds_toArray, List.set_cons_zero, List.set_cons_succ, i64_w, i32_w]
                           rfl
                          refine pure_ (i := 5) (N := some 102) (v := ?_) (a' := ?_) #[true, true, true, true, true, true, false, false, false, false] rfl rfl (any_of HT_.out (by kernel_rfl)) (fun _ _ _ h => h) (Or.inl ⟨by rfl, ?_⟩) ?_ ?_
                          rotate_left
                          ·intro w'
                           go_simp
                           with_reducible rfl
                          rotate_left
                          ·simp only [Act.put, List.setIfInBounds_toArray, List.set_cons_zero, List.set_cons_succ, i64_w, i32_w]
                           rfl
                          refine take_ (i := 6) (N := some 103) (v := ?_) (a' := ?_) #[true, true, true, true, true, true, true, false, false, false] rfl rfl (take_ofW HT_.out HW_.out (by kernel_rfl)) (fun _ _ _ h => h) (Or.inl ⟨by rfl, ?_⟩) hHeld ?_ ?_
                          rotate_left
                          ·rintro w' ⟨s0, s1, s2, s3, s4, s5, s6, s7, s8, s9, s10, s11, s12⟩
                           go_simp
                           with_reducible rfl
                          rotate_left
                          ·simp only [Act.put, List.setIfInBounds_toArray, List.set_cons_zero, List.set_cons_succ, i64_w, i32_w]
                           rfl
                          refine one_ (i := 7) (N := some 104) #[true, true, true, true, true, true, true, true, false, false] rfl rfl (one_of HT_.out (by kernel_rfl)) (by decide) (fun K hK => ?_)
                          refine goes_ Try.func16 (by kernel_rfl) rfl #[.int .i64 ((rd_T23 t293 x8_8).f3)] (by rfl) rfl rfl (by (try simp only [List.map_toArray, List.map_cons, List.map_nil]); first | done | rfl | (simp only [List.length_drop, List.length_take]; rfl)) ?_
                          with_reducible refine (meanderref02_Same.calls ((rd_T23 t293 x8_8).f3) t334 t335 t336 t337 t338 t339 t340 _ A56.out).mono ?_
                          rintro e w80 ⟨rfl, hb⟩
                          have HS9_ := (hb.cell (World.block_lt_of_cell? _ _ (hHeld.2.2.2.2.2.2.2.2.2.1))).trans (hHeld.2.2.2.2.2.2.2.2.2.1)
                          have HS10_ := (hb.cell (World.block_lt_of_cell? _ _ (hHeld.2.2.2.2.2.2.2.2.2.2.1))).trans (hHeld.2.2.2.2.2.2.2.2.2.2.1)
                          have HS11_ := (hb.cell (World.block_lt_of_cell? _ _ (hHeld.2.2.2.2.2.2.2.2.2.2.2.1))).trans (hHeld.2.2.2.2.2.2.2.2.2.2.2.1)
                          have HS12_ := (hb.cell (World.block_lt_of_cell? _ _ (hHeld.2.2.2.2.2.2.2.2.2.2.2.2))).trans (hHeld.2.2.2.2.2.2.2.2.2.2.2.2)
                          refine ⟨_, rfl, ?_⟩
                          have n0_ := Aside0.mk (Kd.R_below (by (with_reducible repeat (first | apply Kd.R_alloc | apply Kd.R_drewN | apply Kd.R_drew)); exact HO_12.out) hb)
                          have n1_ := Aside0.mk (Kd.V_below (by (with_reducible repeat (first | apply Kd.V_alloc | apply Kd.V_drewN | apply Kd.V_drew)); exact HO_292000.out) hb)
                          have n2_ := Aside0.mk (Kd.V_below (by (with_reducible repeat (first | apply Kd.V_alloc | apply Kd.V_drewN | apply Kd.V_drew)); exact HO_292001.out) hb)
                          have n3_ := Aside0.mk (blk_below (g := gb291) (o := .cells #[.slice (some ad300) t293.length co14, .slice Ao16 t296.length co16] 29 (0, 0)) (by (with_reducible repeat (first | refine blk_drewN ?_ _ | refine blk_drew ?_ | refine blk_alloc ?_ _)); exact BK291.out) hb)
                          have n4_ := Aside0.mk (blk_below (g := gb308) (o := .cells #[.int .i64 t324, .int .i64 t325, .int .i64 t326, .int .i64 t327, .int .i64 t328, .int .i64 t329, .int .i64 t330] 42 (0, 0)) (by (with_reducible repeat (first | refine blk_drewN ?_ _ | refine blk_drew ?_ | refine blk_alloc ?_ _)); exact BK308.out) hb)
                          have n5_ := Aside0.mk (blk_below (g := gb332) (o := .cells #[.int .i64 t324, .int .i64 t325, .int .i64 t326, .int .i64 t327, .int .i64 t328, .int .i64 t329, .int .i64 t330] 42 (0, 0)) (by (with_reducible repeat (first | refine blk_drewN ?_ _ | refine blk_drew ?_ | refine blk_alloc ?_ _)); exact BK332.out) hb)
                          have n6_ := Aside0.mk (below_step (by repeat (first | (with_reducible first | exact HB.out | apply below_alloc | apply pw_below_drewN | apply below_drew1 | refine below_set ?_ GE291.out | refine below_set ?_ GE308.out | refine below_set ?_ GE332.out) | exact HB.out)) hb)
                          clear HO_12
                          clear HO_292000
                          clear HO_292001
                          clear BK291
                          clear BK308
                          clear BK332
                          clear HB
                          have HO_12 := n0_
                          have HO_292000 := n1_
                          have HO_292001 := n2_
                          have BK291 := n3_
                          have BK308 := n4_
                          have BK332 := n5_
                          have HB := n6_
                          clear n0_ n1_ n2_ n3_ n4_ n5_ n6_
                          (try clear hb)
                          (try clear hb2)
                          (try clear hk)
                          (try clear hi)
                          refine hK.out _ _ ⟨(blk_cell BK308.out 0).trans rfl, (blk_cell BK308.out 1).trans rfl, (blk_cell BK308.out 2).trans rfl, (blk_cell BK308.out 3).trans rfl, (blk_cell BK308.out 4).trans rfl, (blk_cell BK308.out 5).trans rfl, (blk_cell BK308.out 6).trans rfl, (blk_cell BK291.out 0).trans rfl, (blk_cell BK291.out 1).trans rfl, HS9_, HS10_, HS11_, HS12_⟩ (fun hHeld => ?_)
                          clear hK K
                          refine norm_ (a' := ?_) ?_ ?_
                          rotate_left
                          ·show Act.put _ (some 104) _ = _
                           simp only [Act.put, List.setIfInBounds_toArray, List.set_cons_zero, List.set_cons_succ, i64_w, i32_w]
                           rfl
                          refine one_ (i := 8) (N := some 105) #[true, true, true, true, true, true, true, true, true, false] rfl rfl (one_of HT_.out (by kernel_rfl)) (by decide) (fun K hK => ?_)
                          refine goes_ Try.func20 (by kernel_rfl) rfl #[.agg #[.int .i64 t324, .int .i64 t325, .int .i64 t326, .int .i64 t327, .int .i64 t328, .int .i64 t329, .int .i64 t330], .agg #[.int .i64 t334, .int .i64 t335, .int .i64 t336, .int .i64 t337, .int .i64 t338, .int .i64 t339, .int .i64 t340]] (by rfl) rfl rfl (by (try simp only [List.map_toArray, List.map_cons, List.map_nil]); first | done | rfl | (simp only [List.length_drop, List.length_take]; rfl)) ?_
                          with_reducible refine (meanderref02_LessEq.calls t324 t325 t326 t327 t328 t329 t330 t334 t335 t336 t337 t338 t339 t340 _ _ A57.out).mono ?_
                          rintro e w81 ⟨rfl, hb⟩
                          have HS9_ := (hb.cell (World.block_lt_of_cell? _ _ (hHeld.2.2.2.2.2.2.2.2.2.1))).trans (hHeld.2.2.2.2.2.2.2.2.2.1)
                          have HS10_ := (hb.cell (World.block_lt_of_cell? _ _ (hHeld.2.2.2.2.2.2.2.2.2.2.1))).trans (hHeld.2.2.2.2.2.2.2.2.2.2.1)
                          have HS11_ := (hb.cell (World.block_lt_of_cell? _ _ (hHeld.2.2.2.2.2.2.2.2.2.2.2.1))).trans (hHeld.2.2.2.2.2.2.2.2.2.2.2.1)
                          have HS12_ := (hb.cell (World.block_lt_of_cell? _ _ (hHeld.2.2.2.2.2.2.2.2.2.2.2.2))).trans (hHeld.2.2.2.2.2.2.2.2.2.2.2.2)
                          refine ⟨_, rfl, ?_⟩
                          have n0_ := Aside0.mk (Kd.R_below (by (with_reducible repeat (first | apply Kd.R_alloc | apply Kd.R_drewN | apply Kd.R_drew)); exact HO_12.out) hb)
                          have n1_ := Aside0.mk (Kd.V_below (by (with_reducible repeat (first | apply Kd.V_alloc | apply Kd.V_drewN | apply Kd.V_drew)); exact HO_292000.out) hb)
                          have n2_ := Aside0.mk (Kd.V_below (by (with_reducible repeat (first | apply Kd.V_alloc | apply Kd.V_drewN | apply Kd.V_drew)); exact HO_292001.out) hb)
                          have n3_ := Aside0.mk (blk_below (g := gb291) (o := .cells #[.slice (some ad300) t293.length co14, .slice Ao16 t296.length co16] 29 (0, 0)) (by (with_reducible repeat (first | refine blk_drewN ?_ _ | refine blk_drew ?_ | refine blk_alloc ?_ _)); exact BK291.out) hb)
                          have n4_ := Aside0.mk (blk_below (g := gb308) (o := .cells #[.int .i64 t324, .int .i64 t325, .int .i64 t326, .int .i64 t327, .int .i64 t328, .int .i64 t329, .int .i64 t330] 42 (0, 0)) (by (with_reducible repeat (first | refine blk_drewN ?_ _ | refine blk_drew ?_ | refine blk_alloc ?_ _)); exact BK308.out) hb)
                          have n5_ := Aside0.mk (blk_below (g := gb332) (o := .cells #[.int .i64 t324, .int .i64 t325, .int .i64 t326, .int .i64 t327, .int .i64 t328, .int .i64 t329, .int .i64 t330] 42 (0, 0)) (by (with_reducible repeat (first | refine blk_drewN ?_ _ | refine blk_drew ?_ | refine blk_alloc ?_ _)); exact BK332.out) hb)
                          have n6_ := Aside0.mk (below_step (by repeat (first | (with_reducible first | exact HB.out | apply below_alloc | apply pw_below_drewN | apply below_drew1 | refine below_set ?_ GE291.out | refine below_set ?_ GE308.out | refine below_set ?_ GE332.out) | exact HB.out)) hb)
                          clear HO_12
                          clear HO_292000
                          clear HO_292001
                          clear BK291
                          clear BK308
                          clear BK332
                          clear HB
                          have HO_12 := n0_
                          have HO_292000 := n1_
                          have HO_292001 := n2_
                          have BK291 := n3_
                          have BK308 := n4_
                          have BK332 := n5_
                          have HB := n6_
                          clear n0_ n1_ n2_ n3_ n4_ n5_ n6_
                          (try clear hb)
                          (try clear hb2)
                          (try clear hk)
                          (try clear hi)
                          refine hK.out _ _ ⟨(blk_cell BK308.out 0).trans rfl, (blk_cell BK308.out 1).trans rfl, (blk_cell BK308.out 2).trans rfl, (blk_cell BK308.out 3).trans rfl, (blk_cell BK308.out 4).trans rfl, (blk_cell BK308.out 5).trans rfl, (blk_cell BK308.out 6).trans rfl, (blk_cell BK291.out 0).trans rfl, (blk_cell BK291.out 1).trans rfl, HS9_, HS10_, HS11_, HS12_⟩ (fun hHeld => ?_)
                          clear hK K
                          refine norm_ (a' := ?_) ?_ ?_
                          rotate_left
                          ·show Act.put _ (some 105) _ = _
                           simp only [Act.put, List.setIfInBounds_toArray, List.set_cons_zero, List.set_cons_succ, i64_w, i32_w]
                           rfl
                          refine pure_ (i := 9) (N := some 16) (v := ?_) (a' := ?_) #[true, true, true, true, true, true, true, true, true, true] rfl rfl (any_of HT_.out (by kernel_rfl)) (fun _ _ _ h => h) (Or.inl ⟨by rfl, ?_⟩) ?_ ?_
                          rotate_left
                          ·intro w'
                           go_simp
                           with_reducible rfl
                          rotate_left
                          ·simp only [Act.put, List.setIfInBounds_toArray, List.set_cons_zero, List.set_cons_succ, i64_w, i32_w]
                           rfl
                          refine done_ (done_of HT_.out (by kernel_rfl)) ?_
                          try go_wp2
                          go_roundg kj38
                          case measure => have := HJ8.out; have := HK2.out; have := HJ27.out; have := HJ38.out; omega
                          case rel => exact ⟨((rd_T47 t309 x13_38).f0), (wrap64 (x11_2 + 1)), (t324), (t325), (t326), (t327), (t328), (t329), (t330), (by first | rfl | (simp; done) | (simp [*]; done)), (by first | rfl | (simp; done) | (simp [*]; done)), H', ⟨by have := HJ8.out; have := HK2.out; have := HJ27.out; have := HJ38.out; omega⟩, ⟨by (with_reducible repeat (first | apply Kd.V_alloc | apply Kd.V_drewN | apply Kd.V_drew)); exact Kd.V_mono HO_292000.out (fun _ hk => ⟨hk.2.1, hk.2.2.1⟩)⟩, ⟨by (with_reducible repeat (first | apply Kd.V_alloc | apply Kd.V_drewN | apply Kd.V_drew)); exact Kd.V_mono HO_292001.out (fun _ hk => ⟨hk.2.1, hk.2.2.1⟩)⟩, ⟨by (with_reducible repeat (first | refine blk_drewN ?_ _ | refine blk_drew ?_ | refine blk_alloc ?_ _)); exact BK291.out⟩, ⟨by (with_reducible repeat (first | refine blk_drewN ?_ _ | refine blk_drew ?_ | refine blk_alloc ?_ _)); exact BK308.out⟩, ⟨by repeat (first | (with_reducible first | exact HB.out | apply below_alloc | apply pw_below_drewN | apply below_drew1 | refine below_set ?_ GE291.out | refine below_set ?_ GE308.out | refine below_set ?_ GE332.out) | exact HB.out)⟩⟩
                        ·rw [if_neg c55] at H
                         exact absurd H (by simp)
                       ·rw [if_neg c54] at H
                        exact absurd H (by simp)
                      ·rw [if_neg c53] at H
                       exact absurd H (by simp)
                     ·replace c50 := Bool.eq_false_iff.mpr c50
                      subst c50
                      have H1 : (some t292) = some r := by rw [if_neg (show ¬ (false = true) by decide)] at H; exact H
                      clear H
                      have H := H1
                      clear H1
                      obtain rfl := Option.some.inj H
                      have p313 : 0 ≤ (x13_38 : Int) := of_decide_eq_true (by first | (with_reducible assumption) | assumption)
                      have q313 : x13_38 < (t309.length : Int) := of_decide_eq_true (by first | (with_reducible assumption) | assumption)
                      obtain ⟨ad313, e313, hx313_0, hx313_1⟩ := at_T47 (Kd.R_reads' HO_12.out).2.2 x13_38 p313 q313
                      cases e313
                      replace p313 := eq_true p313
                      replace q313 := eq_true q313
                      have hnb104 := NB291_308.out
                      have hnc104 := NB308_291.out
                      have hcz105_0 : wc.cell? ⟨gb291, 0, none⟩ = some (.slice (some ad300) t293.length co14) := (blk_cell BK291.out 0).trans rfl
                      have hcz105_1 : wc.cell? ⟨gb291, 1, none⟩ = some (.slice Ao16 t296.length co16) := (blk_cell BK291.out 1).trans rfl
                      have hfz105_0 := blk_frozen BK291.out 0
                      have hfz105_1 := blk_frozen BK291.out 1
                      have p314 : 0 ≤ (((rd_T47 t309 x13_38).f0) : Int) := of_decide_eq_true (by first | (with_reducible assumption) | assumption)
                      have q314 : ((rd_T47 t309 x13_38).f0) < (t293.length : Int) := of_decide_eq_true (by first | (with_reducible assumption) | assumption)
                      obtain ⟨ad314, e314, hx314_0, hx314_1, hx314_2, hx314_3⟩ := at_T23 (Kd.V_reads' HO_292000.out).2.2 ((rd_T47 t309 x13_38).f0) p314 q314
                      obtain rfl : ad300 = ad314 := (by injection e314)
                      replace p314 := eq_true p314
                      replace q314 := eq_true q314
                      go_wp2_with (first | ((with_reducible refine gate_callee (f := 15) rfl ?_); refine goesL_ (some 80) rfl rfl Try.func15 (by kernel_rfl) rfl #[.int .i64 ((rd_T23 t293 ((rd_T47 t309 x13_38).f0)).f0)] rfl (by (try simp only [List.map_toArray, List.map_cons, List.map_nil]); first | done | rfl | (simp only [List.length_drop, List.length_take]; rfl)) ?_; (with_reducible refine (graph_HasOut.calls ((rd_T23 t293 ((rd_T47 t309 x13_38).f0)).f0) false _ A49.out).mono ?_); rintro e w' ⟨rfl, ⟨nd, rfl⟩⟩; refine ⟨_, rfl, ?_⟩))
                      go_ret
                      exact ⟨by first | rfl | (simp [errW_none, errW_some] <;> rfl) | (simp [*, errW_none, errW_some] <;> rfl), by repeat (first | (with_reducible first | exact HB.out | apply below_alloc | apply pw_below_drewN | apply below_drew1 | refine below_set ?_ GE291.out | refine below_set ?_ GE308.out) | exact HB.out)⟩
                    ·rw [if_neg c48] at H
                     exact absurd H (by simp)
                   ·rw [if_neg c47] at H
                    exact absurd H (by simp)
                  ·rw [if_neg c46] at H
                   exact absurd H (by simp)
                 ·rw [if_neg c45] at H
                  exact absurd H (by simp)
              ·rw [if_neg c38] at H
               exact absurd H (by simp)
             ·rw [if_neg c37] at H
              exact absurd H (by simp)
           ·replace c30 := Bool.eq_false_iff.mpr c30
            subst c30
            have H1 : (some t292) = some r := by rw [if_neg (show ¬ (false = true) by decide)] at H; exact H
            clear H
            have H := H1
            clear H1
            obtain rfl := Option.some.inj H
            go_wp2
            go_ret
            exact ⟨by first | rfl | (simp [errW_none, errW_some] <;> rfl) | (simp [*, errW_none, errW_some] <;> rfl), by repeat (first | (with_reducible first | exact HB.out | apply below_alloc | apply pw_below_drewN | apply below_drew1 | refine below_set ?_ GE291.out | refine below_set ?_ GE308.out) | exact HB.out)⟩
      ·rw [if_neg c21] at H
       exact absurd H (by simp)
     ·rw [if_neg c20] at H
      exact absurd H (by simp)
 ·rw [if_neg c7] at H
  have c7b0 : (t299 == 0) = false := beq_eq_false_iff_ne.mpr c7
  have c7b1 : (t299 != 0) = true := bne_iff_ne.mpr c7
  obtain rfl := Option.some.inj H
  go_enter Try.func8, Try.ntmps8
  go_wp2_with (first | ((with_reducible refine gate_dst (N := 3) rfl ?_); refine box_event ?hg (N := 3) ?hd (cs := #[.slice A0_0 l0_0.length c0_0, .slice A0_1 l0_1.length c0_1]) (t := 29) ?hr ?_; (case hd => rfl); (case hg => rfl); (case hr => first | (go_simp; done) | (go_simp; rfl)); intro gb291 hg w106 hbox hb; have n0_ := Aside0.mk (below_step (by repeat (first | (with_reducible first | exact HB.out | apply below_alloc | apply pw_below_drewN | apply below_drew1) | exact HB.out)) hb); have n1_ := Aside0.mk (hbox); have n2_ := Aside0.mk ((by rw [hg]; exact (below_size (by repeat (first | (with_reducible first | exact HB.out | apply below_alloc | apply pw_below_drewN | apply below_drew1) | exact HB.out))) : w.heap.size ≤ gb291)); have n3_ := Aside0.mk ((by rw [hg]; exact (below_size (by repeat (first | (with_reducible first | exact HB.out | apply below_alloc | apply pw_below_drewN | apply below_drew1) | exact HB.out))) : w.heap.size ≤ gb291)); clear HB; have HB := n0_; have BK291 := n1_; have GW291 := n2_; have GE291 := n3_; clear n0_ n1_ n2_ n3_; clear hb hbox hg) | ((with_reducible refine gate_callee (f := 9) rfl ?_); refine goesL_ (some 17) rfl rfl Try.func9 (by kernel_rfl) rfl #[] rfl (by (try simp only [List.map_toArray, List.map_cons, List.map_nil]); first | done | rfl | (simp only [List.length_drop, List.length_take]; rfl)) ?_; (with_reducible refine (meanderlaw09_shown.calls k  t292 _ A4.out).mono ?_); rintro e w107 ⟨rfl, hb⟩; refine ⟨_, rfl, ?_⟩; have n0_ := Aside0.mk (blk_below (g := gb291) (o := .cells #[.slice A0_0 l0_0.length c0_0, .slice A0_1 l0_1.length c0_1] 29 (0, 0)) (by (with_reducible repeat (first | refine blk_drewN ?_ _ | refine blk_drew ?_ | refine blk_alloc ?_ _)); exact BK291.out) hb); have n1_ := Aside0.mk (below_step (by repeat (first | (with_reducible first | exact HB.out | apply below_alloc | apply pw_below_drewN | apply below_drew1 | refine below_set ?_ GE291.out) | exact HB.out)) hb); clear BK291; clear HB; have BK291 := n0_; have HB := n1_; clear n0_ n1_; (try clear hb); (try clear hb2); (try clear hk); (try clear hi); have hcz108_0 : w107.cell? ⟨gb291, 0, none⟩ = some (.slice A0_0 l0_0.length c0_0) := (blk_cell BK291.out 0).trans rfl; have hcz108_1 : w107.cell? ⟨gb291, 1, none⟩ = some (.slice A0_1 l0_1.length c0_1) := (blk_cell BK291.out 1).trans rfl; have hfz108_0 := blk_frozen BK291.out 0; have hfz108_1 := blk_frozen BK291.out 1) | ((with_reducible refine gate_callee (f := 12) rfl ?_); refine goesL_ (some 19) rfl rfl Try.func12 (by kernel_rfl) rfl #[.agg #[.slice A0_0 l0_0.length c0_0, .slice A0_1 l0_1.length c0_1]] rfl (by (try simp only [List.map_toArray, List.map_cons, List.map_nil]); first | done | rfl | (simp only [List.length_drop, List.length_take]; rfl)) ?_; (with_reducible refine (meanderlaw09_few.calls (fun k_ => k_ < w.heap.size) _ _ l0_0 (fun k_ => k_ < w.heap.size) _ _ l0_1 t293 t296 _ ?side1 ?side2 A5.out).mono ?_); (case side1 => exact Kd.V_mk HC0_0.out (Kd.F_below (Kd.C_F k23_heap HR0_0.out) (by repeat (first | (with_reducible first | exact HB.out | apply below_alloc | apply pw_below_drewN | apply below_drew1 | refine below_set ?_ GE291.out) | exact HB.out)))); (case side2 => exact Kd.V_mk HC0_1.out (Kd.F_below (Kd.C_F k36_heap HR0_1.out) (by repeat (first | (with_reducible first | exact HB.out | apply below_alloc | apply pw_below_drewN | apply below_drew1 | refine below_set ?_ GE291.out) | exact HB.out)))); rintro e w109 ⟨v294, v297, rfl, ho0, ho1, hb⟩; refine ⟨_, rfl, ?_⟩; have n0_ := Aside0.mk (Kd.V_lower (Kd.V_mono (ok' := fun k_ => k_ ≠ gb291) ho0 (fun k_ hk_ => Or.elim hk_ (fun hs_ => Or.elim hs_ (fun hs_ => fun e_ => Nat.not_le.2 hs_ (by rw [e_]; exact GW291.out)) (fun hs_ => fun e_ => Nat.not_le.2 hs_ (by rw [e_]; exact GW291.out))) (fun hn_ => (Kd.freshB (g := gb291) (o := .cells #[.slice A0_0 l0_0.length c0_0, .slice A0_1 l0_1.length c0_1] 29 (0, 0)) (by (with_reducible repeat (first | refine blk_drewN ?_ _ | refine blk_drew ?_ | refine blk_alloc ?_ _)); exact BK291.out) k_ hn_)))) (below_size (by repeat (first | (with_reducible first | exact HB.out | apply below_alloc | apply pw_below_drewN | apply below_drew1 | refine below_set ?_ GE291.out) | exact HB.out)))); have n1_ := Aside0.mk (Kd.V_lower (Kd.V_mono (ok' := fun k_ => k_ ≠ gb291) ho1 (fun k_ hk_ => Or.elim hk_ (fun hs_ => Or.elim hs_ (fun hs_ => fun e_ => Nat.not_le.2 hs_ (by rw [e_]; exact GW291.out)) (fun hs_ => fun e_ => Nat.not_le.2 hs_ (by rw [e_]; exact GW291.out))) (fun hn_ => (Kd.freshB (g := gb291) (o := .cells #[.slice A0_0 l0_0.length c0_0, .slice A0_1 l0_1.length c0_1] 29 (0, 0)) (by (with_reducible repeat (first | refine blk_drewN ?_ _ | refine blk_drew ?_ | refine blk_alloc ?_ _)); exact BK291.out) k_ hn_)))) (below_size (by repeat (first | (with_reducible first | exact HB.out | apply below_alloc | apply pw_below_drewN | apply below_drew1 | refine below_set ?_ GE291.out) | exact HB.out)))); have n2_ := Aside0.mk (blk_below (g := gb291) (o := .cells #[.slice A0_0 l0_0.length c0_0, .slice A0_1 l0_1.length c0_1] 29 (0, 0)) (by (with_reducible repeat (first | refine blk_drewN ?_ _ | refine blk_drew ?_ | refine blk_alloc ?_ _)); exact BK291.out) hb); have n3_ := Aside0.mk (below_step (by repeat (first | (with_reducible first | exact HB.out | apply below_alloc | apply pw_below_drewN | apply below_drew1 | refine below_set ?_ GE291.out) | exact HB.out)) hb); clear BK291; clear HB; have HO295 := n0_; have HO298 := n1_; have BK291 := n2_; have HB := n3_; clear n0_ n1_ n2_ n3_; (try clear hb); (try clear hb2); (try clear hk); (try clear hi); (try clear ho0); (try clear ho1); obtain ⟨Ao110, co110, eo110⟩ := Kd.V_slice HO295.out; subst eo110; have hcz111_0 : w109.cell? ⟨gb291, 0, none⟩ = some (.slice A0_0 l0_0.length c0_0) := (blk_cell BK291.out 0).trans rfl; have hcz111_1 : w109.cell? ⟨gb291, 1, none⟩ = some (.slice A0_1 l0_1.length c0_1) := (blk_cell BK291.out 1).trans rfl; have hfz111_0 := blk_frozen BK291.out 0; have hfz111_1 := blk_frozen BK291.out 1; obtain ⟨Ao112, co112, eo112⟩ := Kd.V_slice HO298.out; subst eo112) | ((with_reducible refine gate_callee (f := 13) rfl ?_); refine goesL_ (some 21) rfl rfl Try.func13 (by kernel_rfl) rfl #[.agg #[.slice Ao110 t293.length co110, .slice Ao112 t296.length co112]] rfl (by (try simp only [List.map_toArray, List.map_cons, List.map_nil]); first | done | rfl | (simp only [List.length_drop, List.length_take]; rfl)) ?_; (with_reducible refine (valid_Graph.calls k _ _ t293 _ _ t296 t299 _ ?side1 ?side2 ?side3 ?side4 A6.out).mono ?_); (case side1 => refine (Kd.V_reads' (e := 23) (base := w.heap.size) (ok := fun k_ => k_ ≠ gb291) (n := t293.length) (c := co110) ?_).2.2; exact (by (with_reducible repeat (first | apply Kd.V_alloc | apply Kd.V_drewN | apply Kd.V_drew)); exact (Kd.V_mono (Kd.V_far (p := ⟨gb291, 1, none⟩) (Kd.V_far (p := ⟨gb291, 0, none⟩) (Kd.V_mono HO295.out (fun k_ hk => (⟨hk, hk⟩ : _ ∧ k_ ≠ gb291))) (fun _ hk => hk.2) (.slice Ao110 t293.length co110)) (fun _ hk => hk.2) (.slice Ao112 t296.length co112)) (fun _ h_ => h_.1)))); (case side2 => exact (Kd.V_reads' HO295.out).2.1); (case side3 => refine (Kd.V_reads' (e := 36) (base := w.heap.size) (ok := fun k_ => k_ ≠ gb291) (n := t296.length) (c := co112) ?_).2.2; exact (by (with_reducible repeat (first | apply Kd.V_alloc | apply Kd.V_drewN | apply Kd.V_drew)); exact (Kd.V_mono (Kd.V_far (p := ⟨gb291, 1, none⟩) (Kd.V_far (p := ⟨gb291, 0, none⟩) (Kd.V_mono HO298.out (fun k_ hk => (⟨hk, hk⟩ : _ ∧ k_ ≠ gb291))) (fun _ hk => hk.2) (.slice Ao110 t293.length co110)) (fun _ hk => hk.2) (.slice Ao112 t296.length co112)) (fun _ h_ => h_.1)))); (case side4 => exact (Kd.V_reads' HO298.out).2.1); rintro e w113 ⟨rfl, hb⟩; refine ⟨_, rfl, ?_⟩; have n0_ := Aside0.mk (Kd.V_below (by (with_reducible repeat (first | apply Kd.V_alloc | apply Kd.V_drewN | apply Kd.V_drew)); exact (Kd.V_mono (Kd.V_far (p := ⟨gb291, 1, none⟩) (Kd.V_far (p := ⟨gb291, 0, none⟩) (Kd.V_mono HO295.out (fun k_ hk => (⟨hk, hk⟩ : _ ∧ k_ ≠ gb291))) (fun _ hk => hk.2) (.slice Ao110 t293.length co110)) (fun _ hk => hk.2) (.slice Ao112 t296.length co112)) (fun _ h_ => h_.1))) hb); have n1_ := Aside0.mk (Kd.V_below (by (with_reducible repeat (first | apply Kd.V_alloc | apply Kd.V_drewN | apply Kd.V_drew)); exact (Kd.V_mono (Kd.V_far (p := ⟨gb291, 1, none⟩) (Kd.V_far (p := ⟨gb291, 0, none⟩) (Kd.V_mono HO298.out (fun k_ hk => (⟨hk, hk⟩ : _ ∧ k_ ≠ gb291))) (fun _ hk => hk.2) (.slice Ao110 t293.length co110)) (fun _ hk => hk.2) (.slice Ao112 t296.length co112)) (fun _ h_ => h_.1))) hb); have n2_ := Aside0.mk (blk_below (g := gb291) (o := .cells #[.slice Ao110 t293.length co110, .slice Ao112 t296.length co112] 29 (0, 0)) (by (with_reducible repeat (first | refine blk_drewN ?_ _ | refine blk_drew ?_ | refine blk_alloc ?_ _)); refine blk_put (cs := #[.slice Ao110 t293.length co110, .slice A0_1 l0_1.length c0_1]) ?_ 1 _ rfl; (with_reducible repeat (first | refine blk_drewN ?_ _ | refine blk_drew ?_ | refine blk_alloc ?_ _)); refine blk_put (cs := #[.slice A0_0 l0_0.length c0_0, .slice A0_1 l0_1.length c0_1]) ?_ 0 _ rfl; (with_reducible repeat (first | refine blk_drewN ?_ _ | refine blk_drew ?_ | refine blk_alloc ?_ _)); exact BK291.out) hb); have n3_ := Aside0.mk (below_step (by repeat (first | (with_reducible first | exact HB.out | apply below_alloc | apply pw_below_drewN | apply below_drew1 | refine below_set ?_ GE291.out) | exact HB.out)) hb); clear HO295; clear HO298; clear BK291; clear HB; have HO295 := n0_; have HO298 := n1_; have BK291 := n2_; have HB := n3_; clear n0_ n1_ n2_ n3_; (try clear hb); (try clear hb2); (try clear hk); (try clear hi)))
  go_ret
  exact ⟨by first | rfl | (simp [errW_none, errW_some] <;> rfl) | (simp [*, errW_none, errW_some] <;> rfl), by repeat (first | (with_reducible first | exact HB.out | apply below_alloc | apply pw_below_drewN | apply below_drew1 | refine below_set ?_ GE291.out) | exact HB.out)⟩

end Go.Proofs.Ytjlnjlnecipllaa.PAll
