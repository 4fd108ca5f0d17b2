-- Laid by hprint.py of this repo: the kit's printer, and contracts by hand beside it. Not trusted: Lean checks it.
import Derived.Test.YtjlnjlnecipllaaPAllx0
import Derived.Test.YtjlnjlnecipllaaPAllx10
import Derived.Test.YtjlnjlnecipllaaPAllx12
namespace Go.Proofs.Ytjlnjlnecipllaa.PAll
open Go.RowKit Go.Proofs.YtjlnjlnecipllaaW.PrintWords Go.Proofs.YtjlnjlnecipllaaW.PrintLast Go.Proofs.YtjlnjlnecipllaaW.PrintMore
attribute [local go_sem] max2_int min2_int max_two min_two max_three min_three max_four min_four   -- for this text's walks alone
set_option linter.unusedVariables false
set_option linter.unusedSimpArgs false

/-! ### meanderref09_ports: function 32 -/
mutual
def meanderref09_ports.l0 : Nat → List (S47) → Int → List (S23) → List (S36) → Option (Int)
 | 0, _, _, _, _ => none
 | k + 1, x3, x4, x248000, x248001 => if x4 < (x3.length : Int) then (if 0 ≤ x4 then (if ((rd_T47 x3 x4).f1) = (-1) then (meanderref09_ports.l0 k x3 (wrap64 (x4 + 1)) x248000 x248001) else ((meanderref08_Prev.f k x248000 x248001 ((rd_T47 x3 x4).f0) ((rd_T47 x3 x4).f1)).bind fun t253 => (if (t253.length : Int) = 1 then (meanderref09_ports.l0 k x3 (wrap64 (x4 + 1)) x248000 x248001) else (some 13)))) else (none)) else (meanderref09_ports.l1 k x3 0 x248000 x248001)
def meanderref09_ports.l1 : Nat → List (S47) → Int → List (S23) → List (S36) → Option (Int)
 | 0, _, _, _, _ => none
 | k + 1, x3, x5, x248000, x248001 => if x5 < (x3.length : Int) then (if 0 ≤ x5 then (if 0 ≤ ((rd_T47 x3 x5).f0) then (if ((rd_T47 x3 x5).f0) < (x248000.length : Int) then (if ((rd_T47 x3 x5).f1) = (-1) then (meanderref09_ports.j2 k x3 x5 true x248000 x248001) else (if ((rd_T23 x248000 ((rd_T47 x3 x5).f0)).f0) = 6 then (meanderref09_ports.j2 k x3 x5 false x248000 x248001) else (meanderref09_ports.j2 k x3 x5 (((rd_T23 x248000 ((rd_T47 x3 x5).f0)).f0) != 7) x248000 x248001))) else (none)) else (none)) else (none)) else (some 0)
def meanderref09_ports.j2 : Nat → List (S47) → Int → Bool → List (S23) → List (S36) → Option (Int)
 | 0, _, _, _, _, _ => none
 | k + 1, x3, x5, x62, x248000, x248001 => if x62 = true then (meanderref09_ports.l1 k x3 (wrap64 (x5 + 1)) x248000 x248001) else (if 0 ≤ x5 then (if x5 < (x3.length : Int) then ((meanderref08_Prev.f k x248000 x248001 ((rd_T47 x3 x5).f0) ((rd_T47 x3 x5).f1)).bind fun t261 => (if 0 < (t261.length : Int) then (if 0 ≤ (rd t261 0) then (if (rd t261 0) < (x248000.length : Int) then (if ((rd_T23 x248000 (rd t261 0)).f0) = 5 then (meanderref09_ports.l1 k x3 (wrap64 (x5 + 1)) x248000 x248001) else (some 15)) else (none)) else (none)) else (none))) else (none)) else (none))
end
def meanderref09_ports.f (k : Nat) (l0_0 : List (S23)) (l0_1 : List (S36)) : Option (Int) := (meanderref08_Locs.f k l0_0 l0_1).bind fun t248 => (meanderref09_ports.l0 k t248 0 l0_0 l0_1)
theorem meanderref09_ports.mono_l : ∀ k, (∀ y0 y1 y2 y3, LeO (meanderref09_ports.l0 k y0 y1 y2 y3) (meanderref09_ports.l0 (k + 1) y0 y1 y2 y3)) ∧ (∀ y0 y1 y2 y3, LeO (meanderref09_ports.l1 k y0 y1 y2 y3) (meanderref09_ports.l1 (k + 1) y0 y1 y2 y3)) ∧ (∀ y0 y1 y2 y3 y4, LeO (meanderref09_ports.j2 k y0 y1 y2 y3 y4) (meanderref09_ports.j2 (k + 1) y0 y1 y2 y3 y4))
 | 0 => ⟨fun _ _ _ _ r h => by simp [meanderref09_ports.l0] at h, fun _ _ _ _ r h => by simp [meanderref09_ports.l1] at h, fun _ _ _ _ _ r h => by simp [meanderref09_ports.j2] at h⟩
 | k + 1 => by
  obtain ⟨ih0, ih1, ih2⟩ := meanderref09_ports.mono_l k
  refine ⟨?_, ?_, ?_⟩
  ·intro y0 y1 y2 y3
   unfold meanderref09_ports.l0
   repeat' first
   | (with_reducible exact ih0 _ _ _ _)
   | (with_reducible exact ih1 _ _ _ _)
   | (with_reducible exact ih2 _ _ _ _ _)
   | (with_reducible exact meanderref08_Locs.mono _ _ _)
   | (with_reducible exact meanderref08_Prev.mono _ _ _ _ _)
   | (with_reducible exact LeO.refl _)
   | (with_reducible exact LeO.none _)
   | (with_reducible refine LeO.ite ?_ ?_)
   | (with_reducible refine LeO.bind ?_ (fun _ => ?_))
   | exact ih0 _ _ _ _
   | exact ih1 _ _ _ _
   | exact ih2 _ _ _ _ _
   | exact meanderref08_Locs.mono _ _ _
   | exact meanderref08_Prev.mono _ _ _ _ _
   | exact LeO.none _
   | refine LeO.ite ?_ ?_
   | refine LeO.bind ?_ (fun _ => ?_)
  ·intro y0 y1 y2 y3
   unfold meanderref09_ports.l1
   repeat' first
   | (with_reducible exact ih0 _ _ _ _)
   | (with_reducible exact ih1 _ _ _ _)
   | (with_reducible exact ih2 _ _ _ _ _)
   | (with_reducible exact meanderref08_Locs.mono _ _ _)
   | (with_reducible exact meanderref08_Prev.mono _ _ _ _ _)
   | (with_reducible exact LeO.refl _)
   | (with_reducible exact LeO.none _)
   | (with_reducible refine LeO.ite ?_ ?_)
   | (with_reducible refine LeO.bind ?_ (fun _ => ?_))
   | exact ih0 _ _ _ _
   | exact ih1 _ _ _ _
   | exact ih2 _ _ _ _ _
   | exact meanderref08_Locs.mono _ _ _
   | exact meanderref08_Prev.mono _ _ _ _ _
   | exact LeO.none _
   | refine LeO.ite ?_ ?_
   | refine LeO.bind ?_ (fun _ => ?_)
  ·intro y0 y1 y2 y3 y4
   unfold meanderref09_ports.j2
   repeat' first
   | (with_reducible exact ih0 _ _ _ _)
   | (with_reducible exact ih1 _ _ _ _)
   | (with_reducible exact ih2 _ _ _ _ _)
   | (with_reducible exact meanderref08_Locs.mono _ _ _)
   | (with_reducible exact meanderref08_Prev.mono _ _ _ _ _)
   | (with_reducible exact LeO.refl _)
   | (with_reducible exact LeO.none _)
   | (with_reducible refine LeO.ite ?_ ?_)
   | (with_reducible refine LeO.bind ?_ (fun _ => ?_))
   | exact ih0 _ _ _ _
   | exact ih1 _ _ _ _
   | exact ih2 _ _ _ _ _
   | exact meanderref08_Locs.mono _ _ _
   | exact meanderref08_Prev.mono _ _ _ _ _
   | exact LeO.none _
   | refine LeO.ite ?_ ?_
   | refine LeO.bind ?_ (fun _ => ?_)
theorem meanderref09_ports.mono : ∀ a0 a1 k, LeO (meanderref09_ports.f k a0 a1) (meanderref09_ports.f (k + 1) a0 a1) := by
 intro a0 a1 k
 obtain ⟨ih0, ih1, ih2⟩ := meanderref09_ports.mono_l k
 unfold meanderref09_ports.f
 repeat' first
   | (with_reducible exact ih0 _ _ _ _)
   | (with_reducible exact ih1 _ _ _ _)
   | (with_reducible exact ih2 _ _ _ _ _)
   | (with_reducible exact meanderref08_Locs.mono _ _ _)
   | (with_reducible exact meanderref08_Prev.mono _ _ _ _ _)
   | (with_reducible exact LeO.refl _)
   | (with_reducible exact LeO.none _)
   | (with_reducible refine LeO.ite ?_ ?_)
   | (with_reducible refine LeO.bind ?_ (fun _ => ?_))
   | exact ih0 _ _ _ _
   | exact ih1 _ _ _ _
   | exact ih2 _ _ _ _ _
   | exact meanderref08_Locs.mono _ _ _
   | exact meanderref08_Prev.mono _ _ _ _ _
   | exact LeO.none _
   | refine LeO.ite ?_ ?_
   | refine LeO.bind ?_ (fun _ => ?_)
def meanderref09_ports.T5 : Bool × List (List Nat × List Nat) := (true, [([], []), ([], []), ([0, 1], [0, 1]), ([2], [2]), ([3], [3]), ([4], [4]), ([5], [5]), ([6], [6]), ([6], [6]), ([6], [6]), ([8, 9, 6], [6, 8, 9]), ([10, 6], [6, 10]), ([7, 11, 6, 6], [6, 7, 11]), ([12, 6], [6, 12]), ([13, 6], [6, 13]), ([6, 14], [6, 14])])
def meanderref09_ports.B5 : List Nat := [0, 0, 3, 7, 15, 31, 63, 127, 127, 127, 895, 1919, 4095, 8191, 16383, 32767]
theorem meanderref09_ports.tab5 : rtab .any (opsOf Try.f32 5) = meanderref09_ports.T5 := by kernel_rfl
theorem meanderref09_ports.bits5 : waitsOk meanderref09_ports.T5.2 meanderref09_ports.B5 = true := by kernel_rfl
def meanderref09_ports.T10 : Bool × List (List Nat × List Nat) := (true, [([], []), ([0], [0]), ([], []), ([], []), ([2, 3], [2, 3]), ([4], [4]), ([5], [5]), ([1, 6], [1, 6]), ([7], [7]), ([], []), ([9, 8, 0, 1, 2, 3, 4, 5, 6, 7, 8, 9], [8, 9])])
def meanderref09_ports.B10 : List Nat := [0, 1, 0, 0, 12, 28, 60, 127, 255, 0, 1023]
theorem meanderref09_ports.tab10 : rtab .any (opsOf Try.f32 10) = meanderref09_ports.T10 := by kernel_rfl
theorem meanderref09_ports.bits10 : waitsOk meanderref09_ports.T10.2 meanderref09_ports.B10 = true := by kernel_rfl
def meanderref09_ports.T13 : Bool × List (List Nat × List Nat) := (true, [([], []), ([0], [0]), ([], []), ([2], [2]), ([3], [3]), ([1, 4], [1, 4]), ([5], [5]), ([6], [6]), ([7], [7])])
def meanderref09_ports.B13 : List Nat := [0, 1, 0, 4, 12, 31, 63, 127, 255]
theorem meanderref09_ports.tab13 : rtab .any (opsOf Try.f32 13) = meanderref09_ports.T13 := by kernel_rfl
theorem meanderref09_ports.bits13 : waitsOk meanderref09_ports.T13.2 meanderref09_ports.B13 = true := by kernel_rfl
set_option maxHeartbeats 8000000 in
set_option maxRecDepth 100000 in
theorem meanderref09_ports.calls (k : Nat) (A0_0 : Option Addr) (c0_0 : Nat) (l0_0 : List (S23)) (A0_1 : Option Addr) (c0_1 : Nat) (l0_1 : List (S36)) (r : Int) (w : World) (hr0_0 : Kd.C k23 w A0_0 l0_0.length l0_0) (hc0_0 : l0_0.length ≤ c0_0) (hr0_1 : Kd.C k36 w A0_1 l0_1.length l0_1) (hc0_1 : l0_1.length ≤ c0_1) (h : meanderref09_ports.f k l0_0 l0_1 = some r) :
  Calls Try.prog 32 #[.agg #[.slice A0_0 l0_0.length c0_0, .slice A0_1 l0_1.length c0_1]] w fun e w' => e = .returned (.int .i64 r) ∧ Below w.heap.size w w' := by
 have hu29 := Try.underlying29
 have hu47 := Try.underlying47
 have hu23 := Try.underlying23
 have HR0_0 := Aside0.mk hr0_0
 have HC0_0 := Aside0.mk hc0_0
 clear hr0_0 hc0_0
 have HR0_1 := Aside0.mk hr0_1
 have HC0_1 := Aside0.mk hc0_1
 clear hr0_1 hc0_1
 have HB := Aside0.mk (Below.refl w.heap.size w)
 have H : ((meanderref08_Locs.f k l0_0 l0_1).bind fun t248 => (meanderref09_ports.l0 k t248 0 l0_0 l0_1)) = some r := h
 clear h
 replace H := Option.bind_eq_some_iff.mp H
 obtain ⟨t248, A20, H⟩ := H
 replace H : (meanderref09_ports.l0 k t248 0 l0_0 l0_1) = some r := H
 have A2 := Aside0.mk A20
 clear A20
 have H' := Aside0.mk H
 clear H
 go_enter Try.func32, Try.ntmps32
 go_wp2_with (first | ((with_reducible refine gate_dst (N := 1) rfl ?_); (try (refine gate_guard (by rfl) ?_; dsimp only)); refine box_event ?hg (N := 1) ?hd (cs := #[.slice A0_0 l0_0.length c0_0, .slice A0_1 l0_1.length c0_1]) (t := 29) ?hr ?_; (case hd => rfl); (case hg => rfl); (case hr => first | (go_simp; done) | (go_simp; rfl)); intro gb247 hg w3 hbox hb; have n0_ := Aside0.mk (below_step (by repeat (first | (with_reducible first | exact HB.out | apply below_alloc | apply pw_below_drewN | apply below_drew1) | exact HB.out)) hb); have n1_ := Aside0.mk (hbox); have n2_ := Aside0.mk ((by rw [hg]; exact (below_size (by repeat (first | (with_reducible first | exact HB.out | apply below_alloc | apply pw_below_drewN | apply below_drew1) | exact HB.out))) : w.heap.size ≤ gb247)); have n3_ := Aside0.mk ((by rw [hg]; exact (below_size (by repeat (first | (with_reducible first | exact HB.out | apply below_alloc | apply pw_below_drewN | apply below_drew1) | exact HB.out))) : w.heap.size ≤ gb247)); clear HB; have HB := n0_; have BK247 := n1_; have GW247 := n2_; have GE247 := n3_; clear n0_ n1_ n2_ n3_; clear hb hbox hg; have hcz4_0 : w3.cell? ⟨gb247, 0, none⟩ = some (.slice A0_0 l0_0.length c0_0) := (blk_cell BK247.out 0).trans rfl; have hcz4_1 : w3.cell? ⟨gb247, 1, none⟩ = some (.slice A0_1 l0_1.length c0_1) := (blk_cell BK247.out 1).trans rfl; have hfz4_0 := blk_frozen BK247.out 0; have hfz4_1 := blk_frozen BK247.out 1) | ((with_reducible refine gate_callee (f := 63) rfl ?_); refine goesL_ (some 9) rfl rfl Try.func63 (by kernel_rfl) rfl #[.agg #[.slice A0_0 l0_0.length c0_0, .slice A0_1 l0_1.length c0_1]] rfl (by (try simp only [List.map_toArray, List.map_cons, List.map_nil]); first | done | rfl | (simp only [List.length_drop, List.length_take]; rfl)) ?_; (with_reducible refine (meanderref08_Locs.calls k _ _ l0_0 _ _ l0_1 t248 _ ?side1 ?side2 ?side3 ?side4 A2.out).mono ?_); (case side1 => repeat (first | exact (Kd.C_below HR0_0.out HB.out) | (with_reducible refine Kd.C_alloc ?_ _) | (with_reducible refine Kd.C_drewN ?_ _) | (with_reducible refine Kd.C_drew ?_))); (case side2 => exact HC0_0.out); (case side3 => repeat (first | exact (Kd.C_below HR0_1.out HB.out) | (with_reducible refine Kd.C_alloc ?_ _) | (with_reducible refine Kd.C_drewN ?_ _) | (with_reducible refine Kd.C_drew ?_))); (case side4 => exact HC0_1.out); rintro e w5 ⟨v249, rfl, ho0, hb⟩; refine ⟨_, rfl, ?_⟩; have n0_ := Aside0.mk (Kd.R_lower ho0 (below_size (by repeat (first | (with_reducible first | exact HB.out | apply below_alloc | apply pw_below_drewN | apply below_drew1 | refine below_set ?_ GE247.out) | exact HB.out)))); have n1_ := Aside0.mk (blk_below (g := gb247) (o := .cells #[.slice A0_0 l0_0.length c0_0, .slice A0_1 l0_1.length c0_1] 29 (0, 0)) (by (with_reducible repeat (first | refine blk_drewN ?_ _ | refine blk_drew ?_ | refine blk_alloc ?_ _)); exact BK247.out) hb); have n2_ := Aside0.mk (below_step (by repeat (first | (with_reducible first | exact HB.out | apply below_alloc | apply pw_below_drewN | apply below_drew1 | refine below_set ?_ GE247.out) | exact HB.out)) hb); clear BK247; clear HB; have HO250 := n0_; have BK247 := n1_; have HB := n2_; clear n0_ n1_ n2_; (try clear hb); (try clear hb2); (try clear hk); (try clear hi); (try clear ho0)))
 go_loopg [4] k (fun kq v4 w' => ∃ (x4_1 : Int), v4 = .int .i64 x4_1 ∧ Aside0 (meanderref09_ports.l0 kq t248 x4_1 l0_0 l0_1 = some r) ∧ Aside0 (kq ≤ k) ∧ Aside0 (Kd.R k47 47 w' w.heap.size (fun _ => True) v249 t248) ∧ Aside0 (w'.heap[gb247]? = some (.cells #[(.slice A0_0 l0_0.length c0_0), (.slice A0_1 l0_1.length c0_1)] 29 (0, 0))) ∧ Aside0 (Below w.heap.size w w'))
 case atStart => exact ⟨(0), (by first | rfl | (simp; done) | (simp [*]; done)), H', ⟨Nat.le_refl _⟩, ⟨by (with_reducible repeat (first | apply Kd.R_alloc | apply Kd.R_drewN | apply Kd.R_drew)); exact HO250.out⟩, ⟨by (with_reducible repeat (first | refine blk_drewN ?_ _ | refine blk_drew ?_ | refine blk_alloc ?_ _)); exact BK247.out⟩, ⟨by repeat (first | (with_reducible first | exact HB.out | apply below_alloc | apply pw_below_drewN | apply below_drew1 | refine below_set ?_ GE247.out) | exact HB.out)⟩⟩
 case round =>
  clear H'
  try clear p2
  try clear c3
  try clear hcz4_0
  try clear hcz4_1
  try clear hfz4_0
  try clear hfz4_1
  obtain ⟨x4_1, rfl, HA, HK1, HO_3, BK247, HB⟩ := hrel
  cases gk with
  | zero => exact absurd HA.out (by simp [meanderref09_ports.l0])
  | succ k1 =>
   have H := HA.out
   clear HA
   simp only [meanderref09_ports.l0] at H
   by_cases c6 : x4_1 < (t248.length : Int)
   ·rw [if_pos c6] at H
    have c6b0 : decide (x4_1 < (t248.length : Int)) = true := decide_eq_true c6
    clear c6
    by_cases c7 : 0 ≤ x4_1
    ·rw [if_pos c7] at H
     have c7b0 : decide (0 ≤ x4_1) = true := decide_eq_true c7
     clear c7
     by_cases c8 : ((rd_T47 t248 x4_1).f1) = (-1)
     ·rw [if_pos c8] at H
      have c8b0 : (((rd_T47 t248 x4_1).f1) == (-1)) = true := beq_iff_eq.mpr c8
      have c8b1 : (((rd_T47 t248 x4_1).f1) != (-1)) = false := bne_eq_false_iff_eq.mpr c8
      clear c8
      have H' := Aside0.mk H
      clear H
      obtain ⟨Ao9, co9, eo9⟩ := Kd.R_slice HO_3.out
      subst eo9
      try go_wp2
      have n0_ := Aside0.mk (Kd.R_drew HO_3.out)
      have n1_ := Aside0.mk (blk_drew BK247.out)
      have n2_ := Aside0.mk (below_drew1 HB.out)
      clear HO_3
      clear BK247
      clear HB
      have HO_3 := n0_
      have BK247 := n1_
      have HB := n2_
      clear n0_ n1_ n2_
      have p251 : 0 ≤ (x4_1 : Int) := of_decide_eq_true (by first | (with_reducible assumption) | assumption)
      have q251 : x4_1 < (t248.length : Int) := of_decide_eq_true (by first | (with_reducible assumption) | assumption)
      obtain ⟨ad251, e251, hx251_0, hx251_1⟩ := at_T47 (Kd.R_reads' HO_3.out).2.2 x4_1 p251 q251
      cases e251
      replace p251 := eq_true p251
      replace q251 := eq_true q251
      refine start_ (n := 16) (S := fun w' => w'.cell? (ad251.add ((x4_1).toNat * 2)) = some (.int .i64 ((rd_T47 t248 x4_1).f0)) ∧ w'.cell? ⟨(ad251.add ((x4_1).toNat * 2)).block, (ad251.add ((x4_1).toNat * 2)).off + 1, none⟩ = some (.int .i64 ((rd_T47 t248 x4_1).f1))) (ds := []) #[false, false, false, false, false, false, false, false, false, false, false, false, false, false, false, false] (by kernel_rfl) rfl rfl ⟨hx251_0, hx251_1⟩ (fun hHeld => ?_); refine with_tabW meanderref09_ports.tab5 meanderref09_ports.bits5 (fun HT_ HW_ => ?_)
      generalize wr.drew = w10 at HO_3 BK247 HB hx251_0 hx251_1 hHeld ⊢
      refine pure_ (i := 0) (N := some 16) (v := ?_) (a' := ?_) #[true, false, false, false, false, false, false, false, false, false, false, false, false, false, false, false] rfl rfl (any_of HT_.out (by kernel_rfl)) (fun _ _ _ h => h) (Or.inl ⟨by rfl, ?_⟩) ?_ ?_
      rotate_left
      ·intro w'
       go_simp
       with_reducible rfl
      rotate_left
      ·simp only [Act.put, List.setIfInBounds_toArray, List.set_cons_zero, List.set_cons_succ, i64_w, i32_w]
       rfl
      refine pure_ (i := 1) (N := some 17) (v := ?_) (a' := ?_) #[true, true, false, false, false, false, false, false, false, false, false, false, false, false, false, false] rfl rfl (any_of HT_.out (by kernel_rfl)) (fun _ _ _ h => h) (Or.inl ⟨by rfl, ?_⟩) ?_ ?_
      rotate_left
      ·intro w'
       go_simp
       with_reducible rfl
      rotate_left
      ·simp only [Act.put, List.setIfInBounds_toArray, List.set_cons_zero, List.set_cons_succ, i64_w, i32_w]
       rfl
      refine pure_ (i := 2) (N := some 18) (v := ?_) (a' := ?_) #[true, true, true, false, false, false, false, false, false, false, false, false, false, false, false, false] rfl rfl (any_of HT_.out (by kernel_rfl)) (fun _ _ _ h => h) (Or.inl ⟨by rfl, ?_⟩) ?_ ?_
      rotate_left
      ·intro w'
       go_simp
       with_reducible rfl
      rotate_left
      ·simp only [Act.put, List.setIfInBounds_toArray, List.set_cons_zero, List.set_cons_succ, i64_w, i32_w]
       rfl
      refine pure_ (i := 3) (N := some 19) (v := ?_) (a' := ?_) #[true, true, true, true, false, false, false, false, false, false, false, false, false, false, false, false] rfl rfl (any_of HT_.out (by kernel_rfl)) (fun _ _ _ h => h) (Or.inl ⟨by rfl, ?_⟩) ?_ ?_
      rotate_left
      ·intro w'
       go_simp
       with_reducible rfl
      rotate_left
      ·simp only [Act.put, List.setIfInBounds_toArray, List.set_cons_zero, List.set_cons_succ, i64_w, i32_w]
       rfl
      refine take_ (i := 4) (N := some 20) (v := ?_) (a' := ?_) #[true, true, true, true, true, false, false, false, false, false, false, false, false, false, false, false] rfl rfl (take_ofW HT_.out HW_.out (by kernel_rfl)) (fun _ _ _ h => h) (Or.inl ⟨by rfl, ?_⟩) hHeld ?_ ?_
      rotate_left
      ·rintro w' ⟨s0, s1⟩
       go_simp
       with_reducible rfl
      rotate_left
      ·simp only [Act.put, List.setIfInBounds_toArray, List.set_cons_zero, List.set_cons_succ, i64_w, i32_w]
       rfl
      refine pure_ (i := 5) (N := some 21) (v := ?_) (a' := ?_) #[true, true, true, true, true, true, false, false, false, false, false, false, false, false, false, false] rfl rfl (any_of HT_.out (by kernel_rfl)) (fun _ _ _ h => h) (Or.inl ⟨by rfl, ?_⟩) ?_ ?_
      rotate_left
      ·intro w'
       go_simp
       with_reducible rfl
      rotate_left
      ·simp only [Act.put, List.setIfInBounds_toArray, List.set_cons_zero, List.set_cons_succ, i64_w, i32_w]
       rfl
      refine pure_ (i := 6) (N := some 22) (v := ?_) (a' := ?_) #[true, true, true, true, true, true, true, false, false, false, false, false, false, false, false, false] rfl rfl (any_of HT_.out (by kernel_rfl)) (fun _ _ _ h => h) (Or.inl ⟨by rfl, ?_⟩) ?_ ?_
      rotate_left
      ·intro w'
       go_simp
       with_reducible rfl
      rotate_left
      ·simp only [Act.put, List.setIfInBounds_toArray, List.set_cons_zero, List.set_cons_succ, i64_w, i32_w]
       rfl
      refine pure_ (i := 7) (N := some 23) (v := undef) (a' := ?_) #[true, true, true, true, true, true, true, true, false, false, false, false, false, false, false, false] rfl rfl (any_of HT_.out (by kernel_rfl)) (fun _ _ _ h => h) (Or.inr ⟨by rfl, rfl⟩) ?_ ?_
      rotate_left
      ·simp only [Act.put, List.setIfInBounds_toArray, List.set_cons_zero, List.set_cons_succ, i64_w, i32_w]
       rfl
      refine pure_ (i := 8) (N := some 24) (v := undef) (a' := ?_) #[true, true, true, true, true, true, true, true, true, false, false, false, false, false, false, false] rfl rfl (any_of HT_.out (by kernel_rfl)) (fun _ _ _ h => h) (Or.inr ⟨by rfl, rfl⟩) ?_ ?_
      rotate_left
      ·simp only [Act.put, List.setIfInBounds_toArray, List.set_cons_zero, List.set_cons_succ, i64_w, i32_w]
       rfl
      refine pure_ (i := 9) (N := some 25) (v := undef) (a' := ?_) #[true, true, true, true, true, true, true, true, true, true, false, false, false, false, false, false] rfl rfl (any_of HT_.out (by kernel_rfl)) (fun _ _ _ h => h) (Or.inr ⟨by rfl, rfl⟩) ?_ ?_
      rotate_left
      ·simp only [Act.put, List.setIfInBounds_toArray, List.set_cons_zero, List.set_cons_succ, i64_w, i32_w]
       rfl
      refine pure_ (i := 10) (N := some 26) (v := undef) (a' := ?_) #[true, true, true, true, true, true, true, true, true, true, true, false, false, false, false, false] rfl rfl (any_of HT_.out (by kernel_rfl)) (fun _ _ _ h => h) (Or.inr ⟨by rfl, rfl⟩) ?_ ?_
      rotate_left
      ·simp only [Act.put, List.setIfInBounds_toArray, List.set_cons_zero, List.set_cons_succ, i64_w, i32_w]
       rfl
      refine pure_ (i := 11) (N := some 27) (v := undef) (a' := ?_) #[true, true, true, true, true, true, true, true, true, true, true, true, false, false, false, false] rfl rfl (any_of HT_.out (by kernel_rfl)) (fun _ _ _ h => h) (Or.inr ⟨by rfl, rfl⟩) ?_ ?_
      rotate_left
      ·simp only [Act.put, List.setIfInBounds_toArray, List.set_cons_zero, List.set_cons_succ, i64_w, i32_w]
       rfl
      refine pure_ (i := 12) (N := some 28) (v := undef) (a' := ?_) #[true, true, true, true, true, true, true, true, true, true, true, true, true, false, false, false] rfl rfl (any_of HT_.out (by kernel_rfl)) (fun _ _ _ h => h) (Or.inr ⟨by rfl, rfl⟩) ?_ ?_
      rotate_left
      ·simp only [Act.put, List.setIfInBounds_toArray, List.set_cons_zero, List.set_cons_succ, i64_w, i32_w]
       rfl
      refine pure_ (i := 13) (N := some 29) (v := undef) (a' := ?_) #[true, true, true, true, true, true, true, true, true, true, true, true, true, true, false, false] rfl rfl (any_of HT_.out (by kernel_rfl)) (fun _ _ _ h => h) (Or.inr ⟨by rfl, rfl⟩) ?_ ?_
      rotate_left
      ·simp only [Act.put, List.setIfInBounds_toArray, List.set_cons_zero, List.set_cons_succ, i64_w, i32_w]
       rfl
      refine pure_ (i := 14) (N := some 30) (v := undef) (a' := ?_) #[true, true, true, true, true, true, true, true, true, true, true, true, true, true, true, false] rfl rfl (any_of HT_.out (by kernel_rfl)) (fun _ _ _ h => h) (Or.inr ⟨by rfl, rfl⟩) ?_ ?_
      rotate_left
      ·simp only [Act.put, List.setIfInBounds_toArray, List.set_cons_zero, List.set_cons_succ, i64_w, i32_w]
       rfl
      refine pure_ (i := 15) (N := some 31) (v := ?_) (a' := ?_) #[true, true, true, true, true, true, true, true, true, true, true, true, true, true, true, true] rfl rfl (any_of HT_.out (by kernel_rfl)) (fun _ _ _ h => h) (Or.inl ⟨by rfl, ?_⟩) ?_ ?_
      rotate_left
      ·intro w'
       go_simp
       with_reducible rfl
      rotate_left
      ·simp only [Act.put, List.setIfInBounds_toArray, List.set_cons_zero, List.set_cons_succ, i64_w, i32_w]
       rfl
      refine done_ (done_of HT_.out (by kernel_rfl)) ?_
      try go_wp2
      go_roundg k1
      case measure => have := HK1.out; omega
      case rel => exact ⟨(wrap64 (x4_1 + 1)), (by first | rfl | (simp; done) | (simp [*]; done)), H', ⟨by have := HK1.out; omega⟩, ⟨by (with_reducible repeat (first | apply Kd.R_alloc | apply Kd.R_drewN | apply Kd.R_drew)); exact HO_3.out⟩, ⟨by (with_reducible repeat (first | refine blk_drewN ?_ _ | refine blk_drew ?_ | refine blk_alloc ?_ _)); exact BK247.out⟩, ⟨by repeat (first | (with_reducible first | exact HB.out | apply below_alloc | apply pw_below_drewN | apply below_drew1 | refine below_set ?_ GE247.out) | exact HB.out)⟩⟩
     ·rw [if_neg c8] at H
      have c8b0 : (((rd_T47 t248 x4_1).f1) == (-1)) = false := beq_eq_false_iff_ne.mpr c8
      have c8b1 : (((rd_T47 t248 x4_1).f1) != (-1)) = true := bne_iff_ne.mpr c8
      replace H := Option.bind_eq_some_iff.mp H
      obtain ⟨t253, A110, H⟩ := H
      replace H : (if (t253.length : Int) = 1 then (meanderref09_ports.l0 k1 t248 (wrap64 (x4_1 + 1)) l0_0 l0_1) else (some 13)) = some r := H
      have A11 := Aside0.mk A110
      clear A110
      by_cases c12 : (t253.length : Int) = 1
      ·rw [if_pos c12] at H
       have c12b0 : ((t253.length : Int) == 1) = true := beq_iff_eq.mpr c12
       have c12b1 : ((t253.length : Int) != 1) = false := bne_eq_false_iff_eq.mpr c12
       clear c12
       have H' := Aside0.mk H
       clear H
       obtain ⟨Ao13, co13, eo13⟩ := Kd.R_slice HO_3.out
       subst eo13
       try go_wp2
       have n0_ := Aside0.mk (Kd.R_drew HO_3.out)
       have n1_ := Aside0.mk (blk_drew BK247.out)
       have n2_ := Aside0.mk (below_drew1 HB.out)
       clear HO_3
       clear BK247
       clear HB
       have HO_3 := n0_
       have BK247 := n1_
       have HB := n2_
       clear n0_ n1_ n2_
       have p251 : 0 ≤ (x4_1 : Int) := of_decide_eq_true (by first | (with_reducible assumption) | assumption)
       have q251 : x4_1 < (t248.length : Int) := of_decide_eq_true (by first | (with_reducible assumption) | assumption)
       obtain ⟨ad251, e251, hx251_0, hx251_1⟩ := at_T47 (Kd.R_reads' HO_3.out).2.2 x4_1 p251 q251
       cases e251
       replace p251 := eq_true p251
       replace q251 := eq_true q251
       have p252 : 0 ≤ (x4_1 : Int) := of_decide_eq_true (by first | (with_reducible assumption) | assumption)
       have q252 : x4_1 < (t248.length : Int) := of_decide_eq_true (by first | (with_reducible assumption) | assumption)
       obtain ⟨ad252, e252, hx252_0, hx252_1⟩ := at_T47 (Kd.R_reads' HO_3.out).2.2 x4_1 p252 q252
       obtain rfl : ad251 = ad252 := (by injection e252)
       replace p252 := eq_true p252
       replace q252 := eq_true q252
       refine start_ (n := 16) (S := fun w' => w'.cell? ⟨gb247, 0, none⟩ = some (.slice A0_0 l0_0.length c0_0) ∧ w'.cell? ⟨gb247, 1, none⟩ = some (.slice A0_1 l0_1.length c0_1) ∧ w'.cell? (ad251.add ((x4_1).toNat * 2)) = some (.int .i64 ((rd_T47 t248 x4_1).f0)) ∧ w'.cell? ⟨(ad251.add ((x4_1).toNat * 2)).block, (ad251.add ((x4_1).toNat * 2)).off + 1, none⟩ = some (.int .i64 ((rd_T47 t248 x4_1).f1)) ∧ w'.cell? (ad251.add ((x4_1).toNat * 2)) = some (.int .i64 ((rd_T47 t248 x4_1).f0)) ∧ w'.cell? ⟨(ad251.add ((x4_1).toNat * 2)).block, (ad251.add ((x4_1).toNat * 2)).off + 1, none⟩ = some (.int .i64 ((rd_T47 t248 x4_1).f1))) (ds := []) #[false, false, false, false, false, false, false, false, false, false, false, false, false, false, false, false] (by kernel_rfl) rfl rfl ⟨(blk_cell BK247.out 0).trans rfl, (blk_cell BK247.out 1).trans rfl, hx251_0, hx251_1, hx252_0, hx252_1⟩ (fun hHeld => ?_); refine with_tabW meanderref09_ports.tab5 meanderref09_ports.bits5 (fun HT_ HW_ => ?_)
       generalize wr.drew = w14 at HO_3 BK247 HB hx251_0 hx251_1 hx252_0 hx252_1 hHeld ⊢
       refine pure_ (i := 0) (N := some 16) (v := ?_) (a' := ?_) #[true, false, false, false, false, false, false, false, false, false, false, false, false, false, false, false] rfl rfl (any_of HT_.out (by kernel_rfl)) (fun _ _ _ h => h) (Or.inl ⟨by rfl, ?_⟩) ?_ ?_
       rotate_left
       ·intro w'
        go_simp
        with_reducible rfl
       rotate_left
       ·simp only [Act.put, List.setIfInBounds_toArray, List.set_cons_zero, List.set_cons_succ, i64_w, i32_w]
        rfl
       refine pure_ (i := 1) (N := some 17) (v := ?_) (a' := ?_) #[true, true, false, false, false, false, false, false, false, false, false, false, false, false, false, false] rfl rfl (any_of HT_.out (by kernel_rfl)) (fun _ _ _ h => h) (Or.inl ⟨by rfl, ?_⟩) ?_ ?_
       rotate_left
       ·intro w'
        go_simp
        with_reducible rfl
       rotate_left
       ·simp only [Act.put, List.setIfInBounds_toArray, List.set_cons_zero, List.set_cons_succ, i64_w, i32_w]
        rfl
       refine pure_ (i := 2) (N := some 18) (v := ?_) (a' := ?_) #[true, true, true, false, false, false, false, false, false, false, false, false, false, false, false, false] rfl rfl (any_of HT_.out (by kernel_rfl)) (fun _ _ _ h => h) (Or.inl ⟨by rfl, ?_⟩) ?_ ?_
       rotate_left
       ·intro w'
        go_simp
        with_reducible rfl
       rotate_left
       ·simp only [Act.put, List.setIfInBounds_toArray, List.set_cons_zero, List.set_cons_succ, i64_w, i32_w]
        rfl
       refine pure_ (i := 3) (N := some 19) (v := ?_) (a' := ?_) #[true, true, true, true, false, false, false, false, false, false, false, false, false, false, false, false] rfl rfl (any_of HT_.out (by kernel_rfl)) (fun _ _ _ h => h) (Or.inl ⟨by rfl, ?_⟩) ?_ ?_
       rotate_left
       ·intro w'
        go_simp
        with_reducible rfl
       rotate_left
       ·simp only [Act.put, List.setIfInBounds_toArray, List.set_cons_zero, List.set_cons_succ, i64_w, i32_w]
        rfl
       refine take_ (i := 4) (N := some 20) (v := ?_) (a' := ?_) #[true, true, true, true, true, false, false, false, false, false, false, false, false, false, false, false] rfl rfl (take_ofW HT_.out HW_.out (by kernel_rfl)) (fun _ _ _ h => h) (Or.inl ⟨by rfl, ?_⟩) hHeld ?_ ?_
       rotate_left
       ·rintro w' ⟨s0, s1, s2, s3, s4, s5⟩
        go_simp
        with_reducible rfl
       rotate_left
       ·simp only [Act.put, List.setIfInBounds_toArray, List.set_cons_zero, List.set_cons_succ, i64_w, i32_w]
        rfl
       refine pure_ (i := 5) (N := some 21) (v := ?_) (a' := ?_) #[true, true, true, true, true, true, false, false, false, false, false, false, false, false, false, false] rfl rfl (any_of HT_.out (by kernel_rfl)) (fun _ _ _ h => h) (Or.inl ⟨by rfl, ?_⟩) ?_ ?_
       rotate_left
       ·intro w'
        go_simp
        with_reducible rfl
       rotate_left
       ·simp only [Act.put, List.setIfInBounds_toArray, List.set_cons_zero, List.set_cons_succ, i64_w, i32_w]
        rfl
       refine pure_ (i := 6) (N := some 22) (v := ?_) (a' := ?_) #[true, true, true, true, true, true, true, false, false, false, false, false, false, false, false, false] rfl rfl (any_of HT_.out (by kernel_rfl)) (fun _ _ _ h => h) (Or.inl ⟨by rfl, ?_⟩) ?_ ?_
       rotate_left
       ·intro w'
        go_simp
        with_reducible rfl
       rotate_left
       ·simp only [Act.put, List.setIfInBounds_toArray, List.set_cons_zero, List.set_cons_succ, i64_w, i32_w]
        rfl
       refine pure_ (i := 8) (N := some 24) (v := ?_) (a' := ?_) #[true, true, true, true, true, true, true, false, true, false, false, false, false, false, false, false] rfl rfl (any_of HT_.out (by kernel_rfl)) (fun _ _ _ h => h) (Or.inl ⟨by rfl, ?_⟩) ?_ ?_
       rotate_left
       ·intro w'
        go_simp
        with_reducible rfl
       rotate_left
       ·simp only [Act.put, List.setIfInBounds_toArray, List.set_cons_zero, List.set_cons_succ, i64_w, i32_w]
        rfl
       refine pure_ (i := 9) (N := some 25) (v := ?_) (a' := ?_) #[true, true, true, true, true, true, true, false, true, true, false, false, false, false, false, false] rfl rfl (any_of HT_.out (by kernel_rfl)) (fun _ _ _ h => h) (Or.inl ⟨by rfl, ?_⟩) ?_ ?_
       rotate_left
       ·intro w'
        go_simp
        with_reducible rfl
       rotate_left
       ·simp only [Act.put, List.setIfInBounds_toArray, List.set_cons_zero, List.set_cons_succ, i64_w, i32_w]
        rfl
       refine pure_ (i := 10) (N := some 26) (v := ?_) (a' := ?_) #[true, true, true, true, true, true, true, false, true, true, true, false, false, false, false, false] rfl rfl (any_of HT_.out (by kernel_rfl)) (fun _ _ _ h => h) (Or.inl ⟨by rfl, ?_⟩) ?_ ?_
       rotate_left
       ·intro w'
        go_simp
        with_reducible rfl
       rotate_left
       ·simp only [Act.put, List.setIfInBounds_toArray, List.set_cons_zero, List.set_cons_succ, i64_w, i32_w]
        rfl
       refine take_ (i := 7) (N := some 23) (v := ?_) (a' := ?_) #[true, true, true, true, true, true, true, true, true, true, true, false, false, false, false, false] rfl rfl (take_ofW HT_.out HW_.out (by kernel_rfl)) (fun _ _ _ h => h) (Or.inl ⟨by rfl, ?_⟩) hHeld ?_ ?_
       rotate_left
       ·rintro w' ⟨s0, s1, s2, s3, s4, s5⟩
        go_simp
        with_reducible rfl
       rotate_left
       ·simp only [Act.put, List.setIfInBounds_toArray, List.set_cons_zero, List.set_cons_succ, i64_w, i32_w]
        rfl
       refine take_ (i := 11) (N := some 27) (v := ?_) (a' := ?_) #[true, true, true, true, true, true, true, true, true, true, true, true, false, false, false, false] rfl rfl (take_ofW HT_.out HW_.out (by kernel_rfl)) (fun _ _ _ h => h) (Or.inl ⟨by rfl, ?_⟩) hHeld ?_ ?_
       rotate_left
       ·rintro w' ⟨s0, s1, s2, s3, s4, s5⟩
        go_simp
        with_reducible rfl
       rotate_left
       ·simp only [Act.put, List.setIfInBounds_toArray, List.set_cons_zero, List.set_cons_succ, i64_w, i32_w]
        rfl
       refine one_ (i := 12) (N := some 28) #[true, true, true, true, true, true, true, true, true, true, true, true, true, false, false, false] rfl rfl (one_of HT_.out (by kernel_rfl)) (by decide) (fun K hK => ?_)
       refine goes_ Try.func64 (by kernel_rfl) rfl #[.agg #[.slice A0_0 l0_0.length c0_0, .slice A0_1 l0_1.length c0_1], .agg #[.int .i64 ((rd_T47 t248 x4_1).f0), .int .i64 ((rd_T47 t248 x4_1).f1)]] (by rfl) rfl rfl (by (try simp only [List.map_toArray, List.map_cons, List.map_nil]); first | done | rfl | (simp only [List.length_drop, List.length_take]; rfl)) ?_
       with_reducible refine (meanderref08_Prev.calls k1 _ _ l0_0 _ _ l0_1 ((rd_T47 t248 x4_1).f0) ((rd_T47 t248 x4_1).f1) t253 _ ?side1 ?side2 ?side3 ?side4 A11.out).mono ?_
       (case side1 => repeat (first | exact (Kd.C_below HR0_0.out HB.out) | (with_reducible refine Kd.C_alloc ?_ _) | (with_reducible refine Kd.C_drewN ?_ _) | (with_reducible refine Kd.C_drew ?_)))
       (case side2 => exact HC0_0.out)
       (case side3 => repeat (first | exact (Kd.C_below HR0_1.out HB.out) | (with_reducible refine Kd.C_alloc ?_ _) | (with_reducible refine Kd.C_drewN ?_ _) | (with_reducible refine Kd.C_drew ?_)))
       (case side4 => exact HC0_1.out)
       rintro e w15 ⟨v254, rfl, ho0, hb⟩
       have HS2_ := (hb.cell (World.block_lt_of_cell? _ _ (hHeld.2.2.1))).trans (hHeld.2.2.1)
       have HS3_ := (hb.cell (World.block_lt_of_cell? _ _ (hHeld.2.2.2.1))).trans (hHeld.2.2.2.1)
       have HS4_ := (hb.cell (World.block_lt_of_cell? _ _ (hHeld.2.2.2.2.1))).trans (hHeld.2.2.2.2.1)
       have HS5_ := (hb.cell (World.block_lt_of_cell? _ _ (hHeld.2.2.2.2.2))).trans (hHeld.2.2.2.2.2)
       refine ⟨_, rfl, ?_⟩
       have n0_ := Aside0.mk (Kd.R_below (by (with_reducible repeat (first | apply Kd.R_alloc | apply Kd.R_drewN | apply Kd.R_drew)); exact HO_3.out) hb)
       have n1_ := Aside0.mk (Kd.R_lower ho0 (below_size (by repeat (first | (with_reducible first | exact HB.out | apply below_alloc | apply pw_below_drewN | apply below_drew1 | refine below_set ?_ GE247.out) | exact HB.out))))
       have n2_ := Aside0.mk (blk_below (g := gb247) (o := .cells #[.slice A0_0 l0_0.length c0_0, .slice A0_1 l0_1.length c0_1] 29 (0, 0)) (by (with_reducible repeat (first | refine blk_drewN ?_ _ | refine blk_drew ?_ | refine blk_alloc ?_ _)); exact BK247.out) hb)
       have n3_ := Aside0.mk (below_step (by repeat (first | (with_reducible first | exact HB.out | apply below_alloc | apply pw_below_drewN | apply below_drew1 | refine below_set ?_ GE247.out) | exact HB.out)) hb)
       clear HO_3
       clear BK247
       clear HB
       have HO_3 := n0_
       have HO255 := n1_
       have BK247 := n2_
       have HB := n3_
       clear n0_ n1_ n2_ n3_
       (try clear hb)
       (try clear hb2)
       (try clear hk)
       (try clear hi)
       (try clear ho0)
       obtain ⟨Ao16, co16, eo16⟩ := Kd.R_slice HO255.out
       (first | subst eo16 | (injection eo16 with f1_ f2_ f3_; have f4_ := f1_.symm; have f5_ := f3_.symm; clear f1_ f2_ f3_; subst f4_; subst f5_))
       refine hK.out _ _ ⟨(blk_cell BK247.out 0).trans rfl, (blk_cell BK247.out 1).trans rfl, HS2_, HS3_, HS4_, HS5_⟩ (fun hHeld => ?_)
       clear hK K
       refine norm_ (a' := ?_) ?_ ?_
       rotate_left
       ·show Act.put _ (some 28) _ = _
        simp only [Act.put, List.setIfInBounds_toArray, List.set_cons_zero, List.set_cons_succ, i64_w, i32_w]
        rfl
       refine pure_ (i := 13) (N := some 29) (v := ?_) (a' := ?_) #[true, true, true, true, true, true, true, true, true, true, true, true, true, true, false, false] rfl rfl (any_of HT_.out (by kernel_rfl)) (fun _ _ _ h => h) (Or.inl ⟨by rfl, ?_⟩) ?_ ?_
       rotate_left
       ·intro w'
        go_simp
        with_reducible rfl
       rotate_left
       ·simp only [Act.put, List.setIfInBounds_toArray, List.set_cons_zero, List.set_cons_succ, i64_w, i32_w]
        rfl
       refine pure_ (i := 14) (N := some 30) (v := ?_) (a' := ?_) #[true, true, true, true, true, true, true, true, true, true, true, true, true, true, true, false] rfl rfl (any_of HT_.out (by kernel_rfl)) (fun _ _ _ h => h) (Or.inl ⟨by rfl, ?_⟩) ?_ ?_
       rotate_left
       ·intro w'
        go_simp
        with_reducible rfl
       rotate_left
       ·simp only [Act.put, List.setIfInBounds_toArray, List.set_cons_zero, List.set_cons_succ, i64_w, i32_w]
        rfl
       refine pure_ (i := 15) (N := some 31) (v := ?_) (a' := ?_) #[true, true, true, true, true, true, true, true, true, true, true, true, true, true, true, true] rfl rfl (any_of HT_.out (by kernel_rfl)) (fun _ _ _ h => h) (Or.inl ⟨by rfl, ?_⟩) ?_ ?_
       rotate_left
       ·intro w'
        go_simp
        with_reducible rfl
       rotate_left
       ·simp only [Act.put, List.setIfInBounds_toArray, List.set_cons_zero, List.set_cons_succ, i64_w, i32_w]
        rfl
       refine done_ (done_of HT_.out (by kernel_rfl)) ?_
       try go_wp2
       go_roundg k1
       case measure => have := HK1.out; omega
       case rel => exact ⟨(wrap64 (x4_1 + 1)), (by first | rfl | (simp; done) | (simp [*]; done)), H', ⟨by have := HK1.out; omega⟩, ⟨by (with_reducible repeat (first | apply Kd.R_alloc | apply Kd.R_drewN | apply Kd.R_drew)); exact HO_3.out⟩, ⟨by (with_reducible repeat (first | refine blk_drewN ?_ _ | refine blk_drew ?_ | refine blk_alloc ?_ _)); exact BK247.out⟩, ⟨by repeat (first | (with_reducible first | exact HB.out | apply below_alloc | apply pw_below_drewN | apply below_drew1 | refine below_set ?_ GE247.out) | exact HB.out)⟩⟩
      ·rw [if_neg c12] at H
       have c12b0 : ((t253.length : Int) == 1) = false := beq_eq_false_iff_ne.mpr c12
       have c12b1 : ((t253.length : Int) != 1) = true := bne_iff_ne.mpr c12
       obtain rfl := Option.some.inj H
       obtain ⟨Ao17, co17, eo17⟩ := Kd.R_slice HO_3.out
       subst eo17
       try go_wp2
       have n0_ := Aside0.mk (Kd.R_drew HO_3.out)
       have n1_ := Aside0.mk (blk_drew BK247.out)
       have n2_ := Aside0.mk (below_drew1 HB.out)
       clear HO_3
       clear BK247
       clear HB
       have HO_3 := n0_
       have BK247 := n1_
       have HB := n2_
       clear n0_ n1_ n2_
       have p251 : 0 ≤ (x4_1 : Int) := of_decide_eq_true (by first | (with_reducible assumption) | assumption)
       have q251 : x4_1 < (t248.length : Int) := of_decide_eq_true (by first | (with_reducible assumption) | assumption)
       obtain ⟨ad251, e251, hx251_0, hx251_1⟩ := at_T47 (Kd.R_reads' HO_3.out).2.2 x4_1 p251 q251
       cases e251
       replace p251 := eq_true p251
       replace q251 := eq_true q251
       have p252 : 0 ≤ (x4_1 : Int) := of_decide_eq_true (by first | (with_reducible assumption) | assumption)
       have q252 : x4_1 < (t248.length : Int) := of_decide_eq_true (by first | (with_reducible assumption) | assumption)
       obtain ⟨ad252, e252, hx252_0, hx252_1⟩ := at_T47 (Kd.R_reads' HO_3.out).2.2 x4_1 p252 q252
       obtain rfl : ad251 = ad252 := (by injection e252)
       replace p252 := eq_true p252
       replace q252 := eq_true q252
       refine start_ (n := 16) (S := fun w' => w'.cell? ⟨gb247, 0, none⟩ = some (.slice A0_0 l0_0.length c0_0) ∧ w'.cell? ⟨gb247, 1, none⟩ = some (.slice A0_1 l0_1.length c0_1) ∧ w'.cell? (ad251.add ((x4_1).toNat * 2)) = some (.int .i64 ((rd_T47 t248 x4_1).f0)) ∧ w'.cell? ⟨(ad251.add ((x4_1).toNat * 2)).block, (ad251.add ((x4_1).toNat * 2)).off + 1, none⟩ = some (.int .i64 ((rd_T47 t248 x4_1).f1)) ∧ w'.cell? (ad251.add ((x4_1).toNat * 2)) = some (.int .i64 ((rd_T47 t248 x4_1).f0)) ∧ w'.cell? ⟨(ad251.add ((x4_1).toNat * 2)).block, (ad251.add ((x4_1).toNat * 2)).off + 1, none⟩ = some (.int .i64 ((rd_T47 t248 x4_1).f1))) (ds := []) #[false, false, false, false, false, false, false, false, false, false, false, false, false, false, false, false] (by kernel_rfl) rfl rfl ⟨(blk_cell BK247.out 0).trans rfl, (blk_cell BK247.out 1).trans rfl, hx251_0, hx251_1, hx252_0, hx252_1⟩ (fun hHeld => ?_); refine with_tabW meanderref09_ports.tab5 meanderref09_ports.bits5 (fun HT_ HW_ => ?_)
       generalize wr.drew = w18 at HO_3 BK247 HB hx251_0 hx251_1 hx252_0 hx252_1 hHeld ⊢
       refine pure_ (i := 0) (N := some 16) (v := ?_) (a' := ?_) #[true, false, false, false, false, false, false, false, false, false, false, false, false, false, false, false] rfl rfl (any_of HT_.out (by kernel_rfl)) (fun _ _ _ h => h) (Or.inl ⟨by rfl, ?_⟩) ?_ ?_
       rotate_left
       ·intro w'
        go_simp
        with_reducible rfl
       rotate_left
       ·simp only [Act.put, List.setIfInBounds_toArray, List.set_cons_zero, List.set_cons_succ, i64_w, i32_w]
        rfl
       refine pure_ (i := 1) (N := some 17) (v := ?_) (a' := ?_) #[true, true, false, false, false, false, false, false, false, false, false, false, false, false, false, false] rfl rfl (any_of HT_.out (by kernel_rfl)) (fun _ _ _ h => h) (Or.inl ⟨by rfl, ?_⟩) ?_ ?_
       rotate_left
       ·intro w'
        go_simp
        with_reducible rfl
       rotate_left
       ·simp only [Act.put, List.setIfInBounds_toArray, List.set_cons_zero, List.set_cons_succ, i64_w, i32_w]
        rfl
       refine pure_ (i := 2) (N := some 18) (v := ?_) (a' := ?_) #[true, true, true, false, false, false, false, false, false, false, false, false, false, false, false, false] rfl rfl (any_of HT_.out (by kernel_rfl)) (fun _ _ _ h => h) (Or.inl ⟨by rfl, ?_⟩) ?_ ?_
       rotate_left
       ·intro w'
        go_simp
        with_reducible rfl
       rotate_left
       ·simp only [Act.put, List.setIfInBounds_toArray, List.set_cons_zero, List.set_cons_succ, i64_w, i32_w]
        rfl
       refine pure_ (i := 3) (N := some 19) (v := ?_) (a' := ?_) #[true, true, true, true, false, false, false, false, false, false, false, false, false, false, false, false] rfl rfl (any_of HT_.out (by kernel_rfl)) (fun _ _ _ h => h) (Or.inl ⟨by rfl, ?_⟩) ?_ ?_
       rotate_left
       ·intro w'
        go_simp
        with_reducible rfl
       rotate_left
       ·simp only [Act.put, List.setIfInBounds_toArray, List.set_cons_zero, List.set_cons_succ, i64_w, i32_w]
        rfl
       refine take_ (i := 4) (N := some 20) (v := ?_) (a' := ?_) #[true, true, true, true, true, false, false, false, false, false, false, false, false, false, false, false] rfl rfl (take_ofW HT_.out HW_.out (by kernel_rfl)) (fun _ _ _ h => h) (Or.inl ⟨by rfl, ?_⟩) hHeld ?_ ?_
       rotate_left
       ·rintro w' ⟨s0, s1, s2, s3, s4, s5⟩
        go_simp
        with_reducible rfl
       rotate_left
       ·simp only [Act.put, List.setIfInBounds_toArray, List.set_cons_zero, List.set_cons_succ, i64_w, i32_w]
        rfl
       refine pure_ (i := 5) (N := some 21) (v := ?_) (a' := ?_) #[true, true, true, true, true, true, false, false, false, false, false, false, false, false, false, false] rfl rfl (any_of HT_.out (by kernel_rfl)) (fun _ _ _ h => h) (Or.inl ⟨by rfl, ?_⟩) ?_ ?_
       rotate_left
       ·intro w'
        go_simp
        with_reducible rfl
       rotate_left
       ·simp only [Act.put, List.setIfInBounds_toArray, List.set_cons_zero, List.set_cons_succ, i64_w, i32_w]
        rfl
       refine pure_ (i := 6) (N := some 22) (v := ?_) (a' := ?_) #[true, true, true, true, true, true, true, false, false, false, false, false, false, false, false, false] rfl rfl (any_of HT_.out (by kernel_rfl)) (fun _ _ _ h => h) (Or.inl ⟨by rfl, ?_⟩) ?_ ?_
       rotate_left
       ·intro w'
        go_simp
        with_reducible rfl
       rotate_left
       ·simp only [Act.put, List.setIfInBounds_toArray, List.set_cons_zero, List.set_cons_succ, i64_w, i32_w]
        rfl
       refine pure_ (i := 8) (N := some 24) (v := ?_) (a' := ?_) #[true, true, true, true, true, true, true, false, true, false, false, false, false, false, false, false] rfl rfl (any_of HT_.out (by kernel_rfl)) (fun _ _ _ h => h) (Or.inl ⟨by rfl, ?_⟩) ?_ ?_
       rotate_left
       ·intro w'
        go_simp
        with_reducible rfl
       rotate_left
       ·simp only [Act.put, List.setIfInBounds_toArray, List.set_cons_zero, List.set_cons_succ, i64_w, i32_w]
        rfl
       refine pure_ (i := 9) (N := some 25) (v := ?_) (a' := ?_) #[true, true, true, true, true, true, true, false, true, true, false, false, false, false, false, false] rfl rfl (any_of HT_.out (by kernel_rfl)) (fun _ _ _ h => h) (Or.inl ⟨by rfl, ?_⟩) ?_ ?_
       rotate_left
       ·intro w'
        go_simp
        with_reducible rfl
       rotate_left
       ·simp only [Act.put, List.setIfInBounds_toArray, List.set_cons_zero, List.set_cons_succ, i64_w, i32_w]
        rfl
       refine pure_ (i := 10) (N := some 26) (v := ?_) (a' := ?_) #[true, true, true, true, true, true, true, false, true, true, true, false, false, false, false, false] rfl rfl (any_of HT_.out (by kernel_rfl)) (fun _ _ _ h => h) (Or.inl ⟨by rfl, ?_⟩) ?_ ?_
       rotate_left
       ·intro w'
        go_simp
        with_reducible rfl
       rotate_left
       ·simp only [Act.put, List.setIfInBounds_toArray, List.set_cons_zero, List.set_cons_succ, i64_w, i32_w]
        rfl
       refine take_ (i := 7) (N := some 23) (v := ?_) (a' := ?_) #[true, true, true, true, true, true, true, true, true, true, true, false, false, false, false, false] rfl rfl (take_ofW HT_.out HW_.out (by kernel_rfl)) (fun _ _ _ h => h) (Or.inl ⟨by rfl, ?_⟩) hHeld ?_ ?_
       rotate_left
       ·rintro w' ⟨s0, s1, s2, s3, s4, s5⟩
        go_simp
        with_reducible rfl
       rotate_left
       ·simp only [Act.put, List.setIfInBounds_toArray, List.set_cons_zero, List.set_cons_succ, i64_w, i32_w]
        rfl
       refine take_ (i := 11) (N := some 27) (v := ?_) (a' := ?_) #[true, true, true, true, true, true, true, true, true, true, true, true, false, false, false, false] rfl rfl (take_ofW HT_.out HW_.out (by kernel_rfl)) (fun _ _ _ h => h) (Or.inl ⟨by rfl, ?_⟩) hHeld ?_ ?_
       rotate_left
       ·rintro w' ⟨s0, s1, s2, s3, s4, s5⟩
        go_simp
        with_reducible rfl
       rotate_left
       ·simp only [Act.put, List.setIfInBounds_toArray, List.set_cons_zero, List.set_cons_succ, i64_w, i32_w]
        rfl
       refine one_ (i := 12) (N := some 28) #[true, true, true, true, true, true, true, true, true, true, true, true, true, false, false, false] rfl rfl (one_of HT_.out (by kernel_rfl)) (by decide) (fun K hK => ?_)
       refine goes_ Try.func64 (by kernel_rfl) rfl #[.agg #[.slice A0_0 l0_0.length c0_0, .slice A0_1 l0_1.length c0_1], .agg #[.int .i64 ((rd_T47 t248 x4_1).f0), .int .i64 ((rd_T47 t248 x4_1).f1)]] (by rfl) rfl rfl (by (try simp only [List.map_toArray, List.map_cons, List.map_nil]); first | done | rfl | (simp only [List.length_drop, List.length_take]; rfl)) ?_
       with_reducible refine (meanderref08_Prev.calls k1 _ _ l0_0 _ _ l0_1 ((rd_T47 t248 x4_1).f0) ((rd_T47 t248 x4_1).f1) t253 _ ?side1 ?side2 ?side3 ?side4 A11.out).mono ?_
       (case side1 => repeat (first | exact (Kd.C_below HR0_0.out HB.out) | (with_reducible refine Kd.C_alloc ?_ _) | (with_reducible refine Kd.C_drewN ?_ _) | (with_reducible refine Kd.C_drew ?_)))
       (case side2 => exact HC0_0.out)
       (case side3 => repeat (first | exact (Kd.C_below HR0_1.out HB.out) | (with_reducible refine Kd.C_alloc ?_ _) | (with_reducible refine Kd.C_drewN ?_ _) | (with_reducible refine Kd.C_drew ?_)))
       (case side4 => exact HC0_1.out)
       rintro e w19 ⟨v254, rfl, ho0, hb⟩
       have HS2_ := (hb.cell (World.block_lt_of_cell? _ _ (hHeld.2.2.1))).trans (hHeld.2.2.1)
       have HS3_ := (hb.cell (World.block_lt_of_cell? _ _ (hHeld.2.2.2.1))).trans (hHeld.2.2.2.1)
       have HS4_ := (hb.cell (World.block_lt_of_cell? _ _ (hHeld.2.2.2.2.1))).trans (hHeld.2.2.2.2.1)
       have HS5_ := (hb.cell (World.block_lt_of_cell? _ _ (hHeld.2.2.2.2.2))).trans (hHeld.2.2.2.2.2)
       refine ⟨_, rfl, ?_⟩
       have n0_ := Aside0.mk (Kd.R_below (by (with_reducible repeat (first | apply Kd.R_alloc | apply Kd.R_drewN | apply Kd.R_drew)); exact HO_3.out) hb)
       have n1_ := Aside0.mk (Kd.R_lower ho0 (below_size (by repeat (first | (with_reducible first | exact HB.out | apply below_alloc | apply pw_below_drewN | apply below_drew1 | refine below_set ?_ GE247.out) | exact HB.out))))
       have n2_ := Aside0.mk (blk_below (g := gb247) (o := .cells #[.slice A0_0 l0_0.length c0_0, .slice A0_1 l0_1.length c0_1] 29 (0, 0)) (by (with_reducible repeat (first | refine blk_drewN ?_ _ | refine blk_drew ?_ | refine blk_alloc ?_ _)); exact BK247.out) hb)
       have n3_ := Aside0.mk (below_step (by repeat (first | (with_reducible first | exact HB.out | apply below_alloc | apply pw_below_drewN | apply below_drew1 | refine below_set ?_ GE247.out) | exact HB.out)) hb)
       clear HO_3
       clear BK247
       clear HB
       have HO_3 := n0_
       have HO255 := n1_
       have BK247 := n2_
       have HB := n3_
       clear n0_ n1_ n2_ n3_
       (try clear hb)
       (try clear hb2)
       (try clear hk)
       (try clear hi)
       (try clear ho0)
       obtain ⟨Ao20, co20, eo20⟩ := Kd.R_slice HO255.out
       (first | subst eo20 | (injection eo20 with f1_ f2_ f3_; have f4_ := f1_.symm; have f5_ := f3_.symm; clear f1_ f2_ f3_; subst f4_; subst f5_))
       refine hK.out _ _ ⟨(blk_cell BK247.out 0).trans rfl, (blk_cell BK247.out 1).trans rfl, HS2_, HS3_, HS4_, HS5_⟩ (fun hHeld => ?_)
       clear hK K
       refine norm_ (a' := ?_) ?_ ?_
       rotate_left
       ·show Act.put _ (some 28) _ = _
        simp only [Act.put, List.setIfInBounds_toArray, List.set_cons_zero, List.set_cons_succ, i64_w, i32_w]
        rfl
       refine pure_ (i := 13) (N := some 29) (v := ?_) (a' := ?_) #[true, true, true, true, true, true, true, true, true, true, true, true, true, true, false, false] rfl rfl (any_of HT_.out (by kernel_rfl)) (fun _ _ _ h => h) (Or.inl ⟨by rfl, ?_⟩) ?_ ?_
       rotate_left
       ·intro w'
        go_simp
        with_reducible rfl
       rotate_left
       ·simp only [Act.put, List.setIfInBounds_toArray, List.set_cons_zero, List.set_cons_succ, i64_w, i32_w]
        rfl
       refine pure_ (i := 14) (N := some 30) (v := ?_) (a' := ?_) #[true, true, true, true, true, true, true, true, true, true, true, true, true, true, true, false] rfl rfl (any_of HT_.out (by kernel_rfl)) (fun _ _ _ h => h) (Or.inl ⟨by rfl, ?_⟩) ?_ ?_
       rotate_left
       ·intro w'
        go_simp
        with_reducible rfl
       rotate_left
       ·simp only [Act.put, List.setIfInBounds_toArray, List.set_cons_zero, List.set_cons_succ, i64_w, i32_w]
        rfl
       refine pure_ (i := 15) (N := some 31) (v := ?_) (a' := ?_) #[true, true, true, true, true, true, true, true, true, true, true, true, true, true, true, true] rfl rfl (any_of HT_.out (by kernel_rfl)) (fun _ _ _ h => h) (Or.inl ⟨by rfl, ?_⟩) ?_ ?_
       rotate_left
       ·intro w'
        go_simp
        with_reducible rfl
       rotate_left
       ·simp only [Act.put, List.setIfInBounds_toArray, List.set_cons_zero, List.set_cons_succ, i64_w, i32_w]
        rfl
       refine done_ (done_of HT_.out (by kernel_rfl)) ?_
       try go_wp2
       go_ret
       exact ⟨by first | rfl | (simp [errW_none, errW_some] <;> rfl) | (simp [*, errW_none, errW_some] <;> rfl), by repeat (first | (with_reducible first | exact HB.out | apply below_alloc | apply pw_below_drewN | apply below_drew1 | refine below_set ?_ GE247.out) | exact HB.out)⟩
    ·rw [if_neg c7] at H
     exact absurd H (by simp)
   ·rw [if_neg c6] at H
    have c6b0 : decide (x4_1 < (t248.length : Int)) = false := decide_eq_false c6
    clear c6
    have H' := Aside0.mk H
    clear H
    obtain ⟨Ao21, co21, eo21⟩ := Kd.R_slice HO_3.out
    subst eo21
    go_wp2
    go_loopg [5] k1 (fun kq v5 w' => ∃ (x5_2 : Int), v5 = .int .i64 x5_2 ∧ Aside0 (meanderref09_ports.l1 kq t248 x5_2 l0_0 l0_1 = some r) ∧ Aside0 (kq ≤ k1) ∧ Aside0 (Kd.R k47 47 w' w.heap.size (fun _ => True) (.slice Ao21 t248.length co21) t248) ∧ Aside0 (w'.heap[gb247]? = some (.cells #[(.slice A0_0 l0_0.length c0_0), (.slice A0_1 l0_1.length c0_1)] 29 (0, 0))) ∧ Aside0 (Below w.heap.size w w'))
    case atStart => exact ⟨(0), (by first | rfl | (simp; done) | (simp [*]; done)), H', ⟨Nat.le_refl _⟩, ⟨by (with_reducible repeat (first | apply Kd.R_alloc | apply Kd.R_drewN | apply Kd.R_drew)); exact HO_3.out⟩, ⟨by (with_reducible repeat (first | refine blk_drewN ?_ _ | refine blk_drew ?_ | refine blk_alloc ?_ _)); exact BK247.out⟩, ⟨by repeat (first | (with_reducible first | exact HB.out | apply below_alloc | apply pw_below_drewN | apply below_drew1 | refine below_set ?_ GE247.out) | exact HB.out)⟩⟩
    case round =>
     clear H'
     try clear c1
     try clear p2
     try clear q2
     try clear hx2
     try clear c3
     try clear c6
     try clear c6b0
     try clear p6
     try clear c7
     try clear c7b0
     try clear c8
     try clear c8b0
     try clear c8b1
     try clear c12
     try clear c12b0
     try clear c12b1
     try clear hcz4_0
     try clear hcz4_1
     try clear hfz4_0
     try clear hfz4_1
     try clear hx251_0
     try clear hx251_1
     try clear hx252_0
     try clear hx252_1
     try clear p2
     try clear p251
     try clear p252
     try clear q251
     try clear q252
     obtain ⟨x5_2, rfl, HA, HK2, HO_3, BK247, HB⟩ := hrel
     cases gk with
     | zero => exact absurd HA.out (by simp [meanderref09_ports.l1])
     | succ k2 =>
      have H := HA.out
      clear HA
      simp only [meanderref09_ports.l1] at H
      by_cases c22 : x5_2 < (t248.length : Int)
      ·rw [if_pos c22] at H
       have c22b0 : decide (x5_2 < (t248.length : Int)) = true := decide_eq_true c22
       clear c22
       by_cases c23 : 0 ≤ x5_2
       ·rw [if_pos c23] at H
        have c23b0 : decide (0 ≤ x5_2) = true := decide_eq_true c23
        clear c23
        by_cases c24 : 0 ≤ ((rd_T47 t248 x5_2).f0)
        ·rw [if_pos c24] at H
         have c24b0 : decide (0 ≤ ((rd_T47 t248 x5_2).f0)) = true := decide_eq_true c24
         clear c24
         by_cases c25 : ((rd_T47 t248 x5_2).f0) < (l0_0.length : Int)
         ·rw [if_pos c25] at H
          have c25b0 : decide (((rd_T47 t248 x5_2).f0) < (l0_0.length : Int)) = true := decide_eq_true c25
          clear c25
          have HC26 := Aside0.mk H
          clear H
          try go_wp2
          have n0_ := Aside0.mk (Kd.R_drew HO_3.out)
          have n1_ := Aside0.mk (blk_drew BK247.out)
          have n2_ := Aside0.mk (below_drew1 HB.out)
          clear HO_3
          clear BK247
          clear HB
          have HO_3 := n0_
          have BK247 := n1_
          have HB := n2_
          clear n0_ n1_ n2_
          have p256 : 0 ≤ (x5_2 : Int) := of_decide_eq_true (by first | (with_reducible assumption) | assumption)
          have q256 : x5_2 < (t248.length : Int) := of_decide_eq_true (by first | (with_reducible assumption) | assumption)
          obtain ⟨ad256, e256, hx256_0, hx256_1⟩ := at_T47 (Kd.R_reads' HO_3.out).2.2 x5_2 p256 q256
          cases e256
          replace p256 := eq_true p256
          replace q256 := eq_true q256
          have p257 : 0 ≤ (((rd_T47 t248 x5_2).f0) : Int) := of_decide_eq_true (by first | (with_reducible assumption) | assumption)
          have q257 : ((rd_T47 t248 x5_2).f0) < (l0_0.length : Int) := of_decide_eq_true (by first | (with_reducible assumption) | assumption)
          obtain ⟨ad257, e257, hx257_0, hx257_1, hx257_2, hx257_3⟩ := at_T23 HR0_0.out ((rd_T47 t248 x5_2).f0) p257 q257
          have hw257_3 := hx257_3
          have hw257_2 := hx257_2
          have hw257_1 := hx257_1
          have hw257_0 := hx257_0
          cases e257
          replace hx257_0 := (HB.out.cell (World.block_lt_of_cell? w _ hx257_0)).trans hx257_0
          replace hx257_1 := (HB.out.cell (World.block_lt_of_cell? w _ hx257_1)).trans hx257_1
          replace hx257_2 := (HB.out.cell (World.block_lt_of_cell? w _ hx257_2)).trans hx257_2
          replace hx257_3 := (HB.out.cell (World.block_lt_of_cell? w _ hx257_3)).trans hx257_3
          replace p257 := eq_true p257
          replace q257 := eq_true q257
          refine start_ (n := 11) (S := fun w' => w'.cell? ⟨gb247, 0, none⟩ = some (.slice (some ad257) l0_0.length c0_0) ∧ w'.cell? ⟨gb247, 1, none⟩ = some (.slice A0_1 l0_1.length c0_1) ∧ w'.cell? (ad256.add ((x5_2).toNat * 2)) = some (.int .i64 ((rd_T47 t248 x5_2).f0)) ∧ w'.cell? ⟨(ad256.add ((x5_2).toNat * 2)).block, (ad256.add ((x5_2).toNat * 2)).off + 1, none⟩ = some (.int .i64 ((rd_T47 t248 x5_2).f1)) ∧ w'.cell? (ad257.add ((((rd_T47 t248 x5_2).f0)).toNat * 4)) = some (.int .i64 ((rd_T23 l0_0 ((rd_T47 t248 x5_2).f0)).f0)) ∧ w'.cell? ⟨(ad257.add ((((rd_T47 t248 x5_2).f0)).toNat * 4)).block, (ad257.add ((((rd_T47 t248 x5_2).f0)).toNat * 4)).off + 1, none⟩ = some (.int .i64 ((rd_T23 l0_0 ((rd_T47 t248 x5_2).f0)).f1)) ∧ w'.cell? ⟨(ad257.add ((((rd_T47 t248 x5_2).f0)).toNat * 4)).block, (ad257.add ((((rd_T47 t248 x5_2).f0)).toNat * 4)).off + 2, none⟩ = some (.int .i64 ((rd_T23 l0_0 ((rd_T47 t248 x5_2).f0)).f2)) ∧ w'.cell? ⟨(ad257.add ((((rd_T47 t248 x5_2).f0)).toNat * 4)).block, (ad257.add ((((rd_T47 t248 x5_2).f0)).toNat * 4)).off + 3, none⟩ = some (.int .i64 ((rd_T23 l0_0 ((rd_T47 t248 x5_2).f0)).f3))) (ds := []) #[false, false, false, false, false, false, false, false, false, false, false] (by kernel_rfl) rfl rfl ⟨(blk_cell BK247.out 0).trans rfl, (blk_cell BK247.out 1).trans rfl, hx256_0, hx256_1, ((HB.out.cell (World.block_lt_of_cell? w _ hw257_0)).trans hw257_0), ((HB.out.cell (World.block_lt_of_cell? w _ hw257_1)).trans hw257_1), ((HB.out.cell (World.block_lt_of_cell? w _ hw257_2)).trans hw257_2), ((HB.out.cell (World.block_lt_of_cell? w _ hw257_3)).trans hw257_3)⟩ (fun hHeld => ?_); refine with_tabW meanderref09_ports.tab10 meanderref09_ports.bits10 (fun HT_ HW_ => ?_)
          generalize wr.drew = w27 at HO_3 BK247 HB hx256_0 hx256_1 hx257_0 hx257_1 hx257_2 hx257_3 hHeld ⊢
          refine pure_ (i := 0) (N := some 38) (v := ?_) (a' := ?_) #[true, false, false, false, false, false, false, false, false, false, false] rfl rfl (any_of HT_.out (by kernel_rfl)) (fun _ _ _ h => h) (Or.inl ⟨by rfl, ?_⟩) ?_ ?_
          rotate_left
          ·intro w'
           go_simp
           with_reducible rfl
          rotate_left
          ·simp only [Act.put, List.setIfInBounds_toArray, List.set_cons_zero, List.set_cons_succ, i64_w, i32_w]
           rfl
          refine pure_ (i := 2) (N := some 40) (v := ?_) (a' := ?_) #[true, false, true, false, false, false, false, false, false, false, false] rfl rfl (any_of HT_.out (by kernel_rfl)) (fun _ _ _ h => h) (Or.inl ⟨by rfl, ?_⟩) ?_ ?_
          rotate_left
          ·intro w'
           go_simp
           with_reducible rfl
          rotate_left
          ·simp only [Act.put, List.setIfInBounds_toArray, List.set_cons_zero, List.set_cons_succ, i64_w, i32_w]
           rfl
          refine pure_ (i := 3) (N := some 41) (v := ?_) (a' := ?_) #[true, false, true, true, false, false, false, false, false, false, false] rfl rfl (any_of HT_.out (by kernel_rfl)) (fun _ _ _ h => h) (Or.inl ⟨by rfl, ?_⟩) ?_ ?_
          rotate_left
          ·intro w'
           go_simp
           with_reducible rfl
          rotate_left
          ·simp only [Act.put, List.setIfInBounds_toArray, List.set_cons_zero, List.set_cons_succ, i64_w, i32_w]
           rfl
          refine pure_ (i := 4) (N := some 42) (v := ?_) (a' := ?_) #[true, false, true, true, true, false, false, false, false, false, false] rfl rfl (any_of HT_.out (by kernel_rfl)) (fun _ _ _ h => h) (Or.inl ⟨by rfl, ?_⟩) ?_ ?_
          rotate_left
          ·intro w'
           go_simp
           with_reducible rfl
          rotate_left
          ·simp only [Act.put, List.setIfInBounds_toArray, List.set_cons_zero, List.set_cons_succ, i64_w, i32_w]
           rfl
          refine pure_ (i := 5) (N := some 43) (v := ?_) (a' := ?_) #[true, false, true, true, true, true, false, false, false, false, false] rfl rfl (any_of HT_.out (by kernel_rfl)) (fun _ _ _ h => h) (Or.inl ⟨by rfl, ?_⟩) ?_ ?_
          rotate_left
          ·intro w'
           go_simp
           with_reducible rfl
          rotate_left
          ·simp only [Act.put, List.setIfInBounds_toArray, List.set_cons_zero, List.set_cons_succ, i64_w, i32_w]
           rfl
          refine take_ (i := 1) (N := some 39) (v := ?_) (a' := ?_) #[true, true, true, true, true, true, false, false, false, false, false] rfl rfl (take_ofW HT_.out HW_.out (by kernel_rfl)) (fun _ _ _ h => h) (Or.inl ⟨by rfl, ?_⟩) hHeld ?_ ?_
          rotate_left
          ·rintro w' ⟨s0, s1, s2, s3, s4, s5, s6, s7⟩
           go_simp
           with_reducible rfl
          rotate_left
          ·simp only [Act.put, List.setIfInBounds_toArray, List.set_cons_zero, List.set_cons_succ, i64_w, i32_w]
           rfl
          refine take_ (i := 6) (N := some 44) (v := ?_) (a' := ?_) #[true, true, true, true, true, true, true, false, false, false, false] rfl rfl (take_ofW HT_.out HW_.out (by kernel_rfl)) (fun _ _ _ h => h) (Or.inl ⟨by rfl, ?_⟩) hHeld ?_ ?_
          rotate_left
          ·rintro w' ⟨s0, s1, s2, s3, s4, s5, s6, s7⟩
           go_simp
           with_reducible rfl
          rotate_left
          ·simp only [Act.put, List.setIfInBounds_toArray, List.set_cons_zero, List.set_cons_succ, i64_w, i32_w]
           rfl
          refine pure_ (i := 7) (N := some 45) (v := ?_) (a' := ?_) #[true, true, true, true, true, true, true, true, false, false, false] rfl rfl (any_of HT_.out (by kernel_rfl)) (fun _ _ _ h => h) (Or.inl ⟨by rfl, ?_⟩) ?_ ?_
          rotate_left
          ·intro w'
           go_simp
           with_reducible rfl
          rotate_left
          ·simp only [Act.put, List.setIfInBounds_toArray, List.set_cons_zero, List.set_cons_succ, i64_w, i32_w]
           rfl
          refine take_ (i := 8) (N := some 46) (v := ?_) (a' := ?_) #[true, true, true, true, true, true, true, true, true, false, false] rfl rfl (take_ofW HT_.out HW_.out (by kernel_rfl)) (fun _ _ _ h => h) (Or.inl ⟨by rfl, ?_⟩) hHeld ?_ ?_
          rotate_left
          ·rintro w' ⟨s0, s1, s2, s3, s4, s5, s6, s7⟩
           go_simp
           with_reducible rfl
          rotate_left
          ·simp only [Act.put, List.setIfInBounds_toArray, List.set_cons_zero, List.set_cons_succ, i64_w, i32_w]
           rfl
          refine one_ (i := 9) (N := some 6) #[true, true, true, true, true, true, true, true, true, true, false] rfl rfl (one_of HT_.out (by kernel_rfl)) (by decide) (fun K hK => ?_)
          refine box_step ?hg (N := 6) ?hd (cs := #[.int .i64 0, .int .i64 0, .int .i64 0, .int .i64 0]) (t := 23) ?hr ?_; (case hd => rfl); (case hg => rfl); (case hr => first | (go_simp; done) | (go_simp; rfl))
          intro gb258 hg w28 hbox hb
          have HS2_ := (hb.cell (World.block_lt_of_cell? _ _ (hHeld.2.2.1))).trans (hHeld.2.2.1)
          have HS3_ := (hb.cell (World.block_lt_of_cell? _ _ (hHeld.2.2.2.1))).trans (hHeld.2.2.2.1)
          have n0_ := Aside0.mk (Kd.R_below (by (with_reducible repeat (first | apply Kd.R_alloc | apply Kd.R_drewN | apply Kd.R_drew)); exact HO_3.out) hb)
          have n1_ := Aside0.mk (blk_below (g := gb247) (o := .cells #[.slice (some ad257) l0_0.length c0_0, .slice A0_1 l0_1.length c0_1] 29 (0, 0)) (by (with_reducible repeat (first | refine blk_drewN ?_ _ | refine blk_drew ?_ | refine blk_alloc ?_ _)); exact BK247.out) hb)
          have n2_ := Aside0.mk (below_step (by repeat (first | (with_reducible first | exact HB.out | apply below_alloc | apply pw_below_drewN | apply below_drew1 | refine below_set ?_ GE247.out) | exact HB.out)) hb)
          have n3_ := Aside0.mk (hbox)
          have n4_ := Aside0.mk ((by rw [hg]; exact (below_size (by repeat (first | (with_reducible first | exact HB.out | apply below_alloc | apply pw_below_drewN | apply below_drew1 | refine below_set ?_ GE247.out) | exact HB.out))) : w.heap.size ≤ gb258))
          have n5_ := Aside0.mk ((by rw [hg]; exact (below_size (by repeat (first | (with_reducible first | exact HB.out | apply below_alloc | apply pw_below_drewN | apply below_drew1 | refine below_set ?_ GE247.out) | exact HB.out))) : w.heap.size ≤ gb258))
          have n6_ := Aside0.mk ((by rw [hg]; exact Nat.ne_of_lt (blk_lt (g := gb247) (o := .cells #[.slice (some ad257) l0_0.length c0_0, .slice A0_1 l0_1.length c0_1] 29 (0, 0)) (by (with_reducible repeat (first | refine blk_drewN ?_ _ | refine blk_drew ?_ | refine blk_alloc ?_ _)); exact BK247.out)) : gb247 ≠ gb258))
          have n7_ := Aside0.mk ((by rw [hg]; exact Nat.ne_of_gt (blk_lt (g := gb247) (o := .cells #[.slice (some ad257) l0_0.length c0_0, .slice A0_1 l0_1.length c0_1] 29 (0, 0)) (by (with_reducible repeat (first | refine blk_drewN ?_ _ | refine blk_drew ?_ | refine blk_alloc ?_ _)); exact BK247.out)) : gb258 ≠ gb247))
          clear HO_3
          clear BK247
          clear HB
          have HO_3 := n0_
          have BK247 := n1_
          have HB := n2_
          have BK258 := n3_
          have GW258 := n4_
          have GE258 := n5_
          have NB247_258 := n6_
          have NB258_247 := n7_
          clear n0_ n1_ n2_ n3_ n4_ n5_ n6_ n7_
          clear hb hbox hg
          refine hK.out _ _ ⟨(blk_cell BK247.out 0).trans rfl, (blk_cell BK247.out 1).trans rfl, HS2_, HS3_, ((HB.out.cell (World.block_lt_of_cell? w _ hw257_0)).trans hw257_0), ((HB.out.cell (World.block_lt_of_cell? w _ hw257_1)).trans hw257_1), ((HB.out.cell (World.block_lt_of_cell? w _ hw257_2)).trans hw257_2), ((HB.out.cell (World.block_lt_of_cell? w _ hw257_3)).trans hw257_3)⟩ (fun hHeld => ?_)
          clear hK K
          refine norm_ (a' := ?_) ?_ ?_
          rotate_left
          ·show Act.put _ (some 6) _ = _
           simp only [Act.put, List.setIfInBounds_toArray, List.set_cons_zero, List.set_cons_succ, i64_w, i32_w]
           rfl
          refine one_ (i := 10) (N := none) #[true, true, true, true, true, true, true, true, true, true, true] rfl rfl (one_of HT_.out (by kernel_rfl)) (by decide) (fun K hK => ?_)
          have hs29 : w28.cell? ⟨gb258, 0, none⟩ = some (.int .i64 0) := (blk_cell BK258.out 0).trans rfl
          have hfs29 := blk_frozen BK258.out 0
          have hns29_0 := NB247_258.out
          have hms29_0 := NB258_247.out
          have hs30 : w28.cell? ⟨gb258, 1, none⟩ = some (.int .i64 0) := (blk_cell BK258.out 1).trans rfl
          have hfs30 := blk_frozen BK258.out 1
          have hns30_0 := NB247_258.out
          have hms30_0 := NB258_247.out
          have hs31 : w28.cell? ⟨gb258, 2, none⟩ = some (.int .i64 0) := (blk_cell BK258.out 2).trans rfl
          have hfs31 := blk_frozen BK258.out 2
          have hns31_0 := NB247_258.out
          have hms31_0 := NB258_247.out
          have hs32 : w28.cell? ⟨gb258, 3, none⟩ = some (.int .i64 0) := (blk_cell BK258.out 3).trans rfl
          have hfs32 := blk_frozen BK258.out 3
          have hns32_0 := NB247_258.out
          have hms32_0 := NB258_247.out
          refine skip_ (w1 := ?_) (by rfl) rfl ?_ ?_
          rotate_left
          ·go_simp
           rfl
          refine hK.out _ _ ⟨((cell_far (p := ⟨gb258, _, none⟩) NB247_258.out _).trans (((cell_far (p := ⟨gb258, _, none⟩) NB247_258.out _).trans (((cell_far (p := ⟨gb258, _, none⟩) NB247_258.out _).trans (((cell_far (p := ⟨gb258, _, none⟩) NB247_258.out _).trans (hHeld.1)))))))), ((cell_far (p := ⟨gb258, _, none⟩) NB247_258.out _).trans (((cell_far (p := ⟨gb258, _, none⟩) NB247_258.out _).trans (((cell_far (p := ⟨gb258, _, none⟩) NB247_258.out _).trans (((cell_far (p := ⟨gb258, _, none⟩) NB247_258.out _).trans (hHeld.2.1)))))))), ((cell_far (p := ⟨gb258, _, none⟩) (by first | exact Kd.own_blk (Kd.R_ne HO_3.out BK258.out (by decide)) | (rw [add_block]; exact Kd.own_blk (Kd.R_ne HO_3.out BK258.out (by decide))) | (show (Addr.add _ _).block ≠ _; rw [add_block]; exact Kd.own_blk (Kd.R_ne HO_3.out BK258.out (by decide))) | (dsimp only; exact Kd.own_blk (Kd.R_ne HO_3.out BK258.out (by decide)))) _).trans (((cell_far (p := ⟨gb258, _, none⟩) (by first | exact Kd.own_blk (Kd.R_ne HO_3.out BK258.out (by decide)) | (rw [add_block]; exact Kd.own_blk (Kd.R_ne HO_3.out BK258.out (by decide))) | (show (Addr.add _ _).block ≠ _; rw [add_block]; exact Kd.own_blk (Kd.R_ne HO_3.out BK258.out (by decide))) | (dsimp only; exact Kd.own_blk (Kd.R_ne HO_3.out BK258.out (by decide)))) _).trans (((cell_far (p := ⟨gb258, _, none⟩) (by first | exact Kd.own_blk (Kd.R_ne HO_3.out BK258.out (by decide)) | (rw [add_block]; exact Kd.own_blk (Kd.R_ne HO_3.out BK258.out (by decide))) | (show (Addr.add _ _).block ≠ _; rw [add_block]; exact Kd.own_blk (Kd.R_ne HO_3.out BK258.out (by decide))) | (dsimp only; exact Kd.own_blk (Kd.R_ne HO_3.out BK258.out (by decide)))) _).trans (((cell_far (p := ⟨gb258, _, none⟩) (by first | exact Kd.own_blk (Kd.R_ne HO_3.out BK258.out (by decide)) | (rw [add_block]; exact Kd.own_blk (Kd.R_ne HO_3.out BK258.out (by decide))) | (show (Addr.add _ _).block ≠ _; rw [add_block]; exact Kd.own_blk (Kd.R_ne HO_3.out BK258.out (by decide))) | (dsimp only; exact Kd.own_blk (Kd.R_ne HO_3.out BK258.out (by decide)))) _).trans (hHeld.2.2.1)))))))), ((cell_far (p := ⟨gb258, _, none⟩) (by first | exact Kd.own_blk (Kd.R_ne HO_3.out BK258.out (by decide)) | (rw [add_block]; exact Kd.own_blk (Kd.R_ne HO_3.out BK258.out (by decide))) | (show (Addr.add _ _).block ≠ _; rw [add_block]; exact Kd.own_blk (Kd.R_ne HO_3.out BK258.out (by decide))) | (dsimp only; exact Kd.own_blk (Kd.R_ne HO_3.out BK258.out (by decide)))) _).trans (((cell_far (p := ⟨gb258, _, none⟩) (by first | exact Kd.own_blk (Kd.R_ne HO_3.out BK258.out (by decide)) | (rw [add_block]; exact Kd.own_blk (Kd.R_ne HO_3.out BK258.out (by decide))) | (show (Addr.add _ _).block ≠ _; rw [add_block]; exact Kd.own_blk (Kd.R_ne HO_3.out BK258.out (by decide))) | (dsimp only; exact Kd.own_blk (Kd.R_ne HO_3.out BK258.out (by decide)))) _).trans (((cell_far (p := ⟨gb258, _, none⟩) (by first | exact Kd.own_blk (Kd.R_ne HO_3.out BK258.out (by decide)) | (rw [add_block]; exact Kd.own_blk (Kd.R_ne HO_3.out BK258.out (by decide))) | (show (Addr.add _ _).block ≠ _; rw [add_block]; exact Kd.own_blk (Kd.R_ne HO_3.out BK258.out (by decide))) | (dsimp only; exact Kd.own_blk (Kd.R_ne HO_3.out BK258.out (by decide)))) _).trans (((cell_far (p := ⟨gb258, _, none⟩) (by first | exact Kd.own_blk (Kd.R_ne HO_3.out BK258.out (by decide)) | (rw [add_block]; exact Kd.own_blk (Kd.R_ne HO_3.out BK258.out (by decide))) | (show (Addr.add _ _).block ≠ _; rw [add_block]; exact Kd.own_blk (Kd.R_ne HO_3.out BK258.out (by decide))) | (dsimp only; exact Kd.own_blk (Kd.R_ne HO_3.out BK258.out (by decide)))) _).trans (hHeld.2.2.2.1)))))))), ((cell_far (p := ⟨gb258, _, none⟩) (by first | exact Nat.ne_of_lt (Nat.lt_of_lt_of_le (by have := World.block_lt_of_cell? _ _ hw257_0; first | rwa [add_block] at this | exact this) GW258.out) | (rw [add_block]; exact Nat.ne_of_lt (Nat.lt_of_lt_of_le (by have := World.block_lt_of_cell? _ _ hw257_0; first | rwa [add_block] at this | exact this) GW258.out)) | (show (Addr.add _ _).block ≠ _; rw [add_block]; exact Nat.ne_of_lt (Nat.lt_of_lt_of_le (by have := World.block_lt_of_cell? _ _ hw257_0; first | rwa [add_block] at this | exact this) GW258.out)) | (dsimp only; exact Nat.ne_of_lt (Nat.lt_of_lt_of_le (by have := World.block_lt_of_cell? _ _ hw257_0; first | rwa [add_block] at this | exact this) GW258.out))) _).trans (((cell_far (p := ⟨gb258, _, none⟩) (by first | exact Nat.ne_of_lt (Nat.lt_of_lt_of_le (by have := World.block_lt_of_cell? _ _ hw257_0; first | rwa [add_block] at this | exact this) GW258.out) | (rw [add_block]; exact Nat.ne_of_lt (Nat.lt_of_lt_of_le (by have := World.block_lt_of_cell? _ _ hw257_0; first | rwa [add_block] at this | exact this) GW258.out)) | (show (Addr.add _ _).block ≠ _; rw [add_block]; exact Nat.ne_of_lt (Nat.lt_of_lt_of_le (by have := World.block_lt_of_cell? _ _ hw257_0; first | rwa [add_block] at this | exact this) GW258.out)) | (dsimp only; exact Nat.ne_of_lt (Nat.lt_of_lt_of_le (by have := World.block_lt_of_cell? _ _ hw257_0; first | rwa [add_block] at this | exact this) GW258.out))) _).trans (((cell_far (p := ⟨gb258, _, none⟩) (by first | exact Nat.ne_of_lt (Nat.lt_of_lt_of_le (by have := World.block_lt_of_cell? _ _ hw257_0; first | rwa [add_block] at this | exact this) GW258.out) | (rw [add_block]; exact Nat.ne_of_lt (Nat.lt_of_lt_of_le (by have := World.block_lt_of_cell? _ _ hw257_0; first | rwa [add_block] at this | exact this) GW258.out)) | (show (Addr.add _ _).block ≠ _; rw [add_block]; exact Nat.ne_of_lt (Nat.lt_of_lt_of_le (by have := World.block_lt_of_cell? _ _ hw257_0; first | rwa [add_block] at this | exact this) GW258.out)) | (dsimp only; exact Nat.ne_of_lt (Nat.lt_of_lt_of_le (by have := World.block_lt_of_cell? _ _ hw257_0; first | rwa [add_block] at this | exact this) GW258.out))) _).trans (((cell_far (p := ⟨gb258, _, none⟩) (by first | exact Nat.ne_of_lt (Nat.lt_of_lt_of_le (by have := World.block_lt_of_cell? _ _ hw257_0; first | rwa [add_block] at this | exact this) GW258.out) | (rw [add_block]; exact Nat.ne_of_lt (Nat.lt_of_lt_of_le (by have := World.block_lt_of_cell? _ _ hw257_0; first | rwa [add_block] at this | exact this) GW258.out)) | (show (Addr.add _ _).block ≠ _; rw [add_block]; exact Nat.ne_of_lt (Nat.lt_of_lt_of_le (by have := World.block_lt_of_cell? _ _ hw257_0; first | rwa [add_block] at this | exact this) GW258.out)) | (dsimp only; exact Nat.ne_of_lt (Nat.lt_of_lt_of_le (by have := World.block_lt_of_cell? _ _ hw257_0; first | rwa [add_block] at this | exact this) GW258.out))) _).trans (hHeld.2.2.2.2.1)))))))), ((cell_far (p := ⟨gb258, _, none⟩) (by first | exact Nat.ne_of_lt (Nat.lt_of_lt_of_le (by have := World.block_lt_of_cell? _ _ hw257_1; first | rwa [add_block] at this | exact this) GW258.out) | (rw [add_block]; exact Nat.ne_of_lt (Nat.lt_of_lt_of_le (by have := World.block_lt_of_cell? _ _ hw257_1; first | rwa [add_block] at this | exact this) GW258.out)) | (show (Addr.add _ _).block ≠ _; rw [add_block]; exact Nat.ne_of_lt (Nat.lt_of_lt_of_le (by have := World.block_lt_of_cell? _ _ hw257_1; first | rwa [add_block] at this | exact this) GW258.out)) | (dsimp only; exact Nat.ne_of_lt (Nat.lt_of_lt_of_le (by have := World.block_lt_of_cell? _ _ hw257_1; first | rwa [add_block] at this | exact this) GW258.out))) _).trans (((cell_far (p := ⟨gb258, _, none⟩) (by first | exact Nat.ne_of_lt (Nat.lt_of_lt_of_le (by have := World.block_lt_of_cell? _ _ hw257_1; first | rwa [add_block] at this | exact this) GW258.out) | (rw [add_block]; exact Nat.ne_of_lt (Nat.lt_of_lt_of_le (by have := World.block_lt_of_cell? _ _ hw257_1; first | rwa [add_block] at this | exact this) GW258.out)) | (show (Addr.add _ _).block ≠ _; rw [add_block]; exact Nat.ne_of_lt (Nat.lt_of_lt_of_le (by have := World.block_lt_of_cell? _ _ hw257_1; first | rwa [add_block] at this | exact this) GW258.out)) | (dsimp only; exact Nat.ne_of_lt (Nat.lt_of_lt_of_le (by have := World.block_lt_of_cell? _ _ hw257_1; first | rwa [add_block] at this | exact this) GW258.out))) _).trans (((cell_far (p := ⟨gb258, _, none⟩) (by first | exact Nat.ne_of_lt (Nat.lt_of_lt_of_le (by have := World.block_lt_of_cell? _ _ hw257_1; first | rwa [add_block] at this | exact this) GW258.out) | (rw [add_block]; exact Nat.ne_of_lt (Nat.lt_of_lt_of_le (by have := World.block_lt_of_cell? _ _ hw257_1; first | rwa [add_block] at this | exact this) GW258.out)) | (show (Addr.add _ _).block ≠ _; rw [add_block]; exact Nat.ne_of_lt (Nat.lt_of_lt_of_le (by have := World.block_lt_of_cell? _ _ hw257_1; first | rwa [add_block] at this | exact this) GW258.out)) | (dsimp only; exact Nat.ne_of_lt (Nat.lt_of_lt_of_le (by have := World.block_lt_of_cell? _ _ hw257_1; first | rwa [add_block] at this | exact this) GW258.out))) _).trans (((cell_far (p := ⟨gb258, _, none⟩) (by first | exact Nat.ne_of_lt (Nat.lt_of_lt_of_le (by have := World.block_lt_of_cell? _ _ hw257_1; first | rwa [add_block] at this | exact this) GW258.out) | (rw [add_block]; exact Nat.ne_of_lt (Nat.lt_of_lt_of_le (by have := World.block_lt_of_cell? _ _ hw257_1; first | rwa [add_block] at this | exact this) GW258.out)) | (show (Addr.add _ _).block ≠ _; rw [add_block]; exact Nat.ne_of_lt (Nat.lt_of_lt_of_le (by have := World.block_lt_of_cell? _ _ hw257_1; first | rwa [add_block] at this | exact this) GW258.out)) | (dsimp only; exact Nat.ne_of_lt (Nat.lt_of_lt_of_le (by have := World.block_lt_of_cell? _ _ hw257_1; first | rwa [add_block] at this | exact this) GW258.out))) _).trans (hHeld.2.2.2.2.2.1)))))))), ((cell_far (p := ⟨gb258, _, none⟩) (by first | exact Nat.ne_of_lt (Nat.lt_of_lt_of_le (by have := World.block_lt_of_cell? _ _ hw257_2; first | rwa [add_block] at this | exact this) GW258.out) | (rw [add_block]; exact Nat.ne_of_lt (Nat.lt_of_lt_of_le (by have := World.block_lt_of_cell? _ _ hw257_2; first | rwa [add_block] at this | exact this) GW258.out)) | (show (Addr.add _ _).block ≠ _; rw [add_block]; exact Nat.ne_of_lt (Nat.lt_of_lt_of_le (by have := World.block_lt_of_cell? _ _ hw257_2; first | rwa [add_block] at this | exact this) GW258.out)) | (dsimp only; exact Nat.ne_of_lt (Nat.lt_of_lt_of_le (by have := World.block_lt_of_cell? _ _ hw257_2; first | rwa [add_block] at this | exact this) GW258.out))) _).trans (((cell_far (p := ⟨gb258, _, none⟩) (by first | exact Nat.ne_of_lt (Nat.lt_of_lt_of_le (by have := World.block_lt_of_cell? _ _ hw257_2; first | rwa [add_block] at this | exact this) GW258.out) | (rw [add_block]; exact Nat.ne_of_lt (Nat.lt_of_lt_of_le (by have := World.block_lt_of_cell? _ _ hw257_2; first | rwa [add_block] at this | exact this) GW258.out)) | (show (Addr.add _ _).block ≠ _; rw [add_block]; exact Nat.ne_of_lt (Nat.lt_of_lt_of_le (by have := World.block_lt_of_cell? _ _ hw257_2; first | rwa [add_block] at this | exact this) GW258.out)) | (dsimp only; exact Nat.ne_of_lt (Nat.lt_of_lt_of_le (by have := World.block_lt_of_cell? _ _ hw257_2; first | rwa [add_block] at this | exact this) GW258.out))) _).trans (((cell_far (p := ⟨gb258, _, none⟩) (by first | exact Nat.ne_of_lt (Nat.lt_of_lt_of_le (by have := World.block_lt_of_cell? _ _ hw257_2; first | rwa [add_block] at this | exact this) GW258.out) | (rw [add_block]; exact Nat.ne_of_lt (Nat.lt_of_lt_of_le (by have := World.block_lt_of_cell? _ _ hw257_2; first | rwa [add_block] at this | exact this) GW258.out)) | (show (Addr.add _ _).block ≠ _; rw [add_block]; exact Nat.ne_of_lt (Nat.lt_of_lt_of_le (by have := World.block_lt_of_cell? _ _ hw257_2; first | rwa [add_block] at this | exact this) GW258.out)) | (dsimp only; exact Nat.ne_of_lt (Nat.lt_of_lt_of_le (by have := World.block_lt_of_cell? _ _ hw257_2; first | rwa [add_block] at this | exact this) GW258.out))) _).trans (((cell_far (p := ⟨gb258, _, none⟩) (by first | exact Nat.ne_of_lt (Nat.lt_of_lt_of_le (by have := World.block_lt_of_cell? _ _ hw257_2; first | rwa [add_block] at this | exact this) GW258.out) | (rw [add_block]; exact Nat.ne_of_lt (Nat.lt_of_lt_of_le (by have := World.block_lt_of_cell? _ _ hw257_2; first | rwa [add_block] at this | exact this) GW258.out)) | (show (Addr.add _ _).block ≠ _; rw [add_block]; exact Nat.ne_of_lt (Nat.lt_of_lt_of_le (by have := World.block_lt_of_cell? _ _ hw257_2; first | rwa [add_block] at this | exact this) GW258.out)) | (dsimp only; exact Nat.ne_of_lt (Nat.lt_of_lt_of_le (by have := World.block_lt_of_cell? _ _ hw257_2; first | rwa [add_block] at this | exact this) GW258.out))) _).trans (hHeld.2.2.2.2.2.2.1)))))))), ((cell_far (p := ⟨gb258, _, none⟩) (by first | exact Nat.ne_of_lt (Nat.lt_of_lt_of_le (by have := World.block_lt_of_cell? _ _ hw257_3; first | rwa [add_block] at this | exact this) GW258.out) | (rw [add_block]; exact Nat.ne_of_lt (Nat.lt_of_lt_of_le (by have := World.block_lt_of_cell? _ _ hw257_3; first | rwa [add_block] at this | exact this) GW258.out)) | (show (Addr.add _ _).block ≠ _; rw [add_block]; exact Nat.ne_of_lt (Nat.lt_of_lt_of_le (by have := World.block_lt_of_cell? _ _ hw257_3; first | rwa [add_block] at this | exact this) GW258.out)) | (dsimp only; exact Nat.ne_of_lt (Nat.lt_of_lt_of_le (by have := World.block_lt_of_cell? _ _ hw257_3; first | rwa [add_block] at this | exact this) GW258.out))) _).trans (((cell_far (p := ⟨gb258, _, none⟩) (by first | exact Nat.ne_of_lt (Nat.lt_of_lt_of_le (by have := World.block_lt_of_cell? _ _ hw257_3; first | rwa [add_block] at this | exact this) GW258.out) | (rw [add_block]; exact Nat.ne_of_lt (Nat.lt_of_lt_of_le (by have := World.block_lt_of_cell? _ _ hw257_3; first | rwa [add_block] at this | exact this) GW258.out)) | (show (Addr.add _ _).block ≠ _; rw [add_block]; exact Nat.ne_of_lt (Nat.lt_of_lt_of_le (by have := World.block_lt_of_cell? _ _ hw257_3; first | rwa [add_block] at this | exact this) GW258.out)) | (dsimp only; exact Nat.ne_of_lt (Nat.lt_of_lt_of_le (by have := World.block_lt_of_cell? _ _ hw257_3; first | rwa [add_block] at this | exact this) GW258.out))) _).trans (((cell_far (p := ⟨gb258, _, none⟩) (by first | exact Nat.ne_of_lt (Nat.lt_of_lt_of_le (by have := World.block_lt_of_cell? _ _ hw257_3; first | rwa [add_block] at this | exact this) GW258.out) | (rw [add_block]; exact Nat.ne_of_lt (Nat.lt_of_lt_of_le (by have := World.block_lt_of_cell? _ _ hw257_3; first | rwa [add_block] at this | exact this) GW258.out)) | (show (Addr.add _ _).block ≠ _; rw [add_block]; exact Nat.ne_of_lt (Nat.lt_of_lt_of_le (by have := World.block_lt_of_cell? _ _ hw257_3; first | rwa [add_block] at this | exact this) GW258.out)) | (dsimp only; exact Nat.ne_of_lt (Nat.lt_of_lt_of_le (by have := World.block_lt_of_cell? _ _ hw257_3; first | rwa [add_block] at this | exact this) GW258.out))) _).trans (((cell_far (p := ⟨gb258, _, none⟩) (by first | exact Nat.ne_of_lt (Nat.lt_of_lt_of_le (by have := World.block_lt_of_cell? _ _ hw257_3; first | rwa [add_block] at this | exact this) GW258.out) | (rw [add_block]; exact Nat.ne_of_lt (Nat.lt_of_lt_of_le (by have := World.block_lt_of_cell? _ _ hw257_3; first | rwa [add_block] at this | exact this) GW258.out)) | (show (Addr.add _ _).block ≠ _; rw [add_block]; exact Nat.ne_of_lt (Nat.lt_of_lt_of_le (by have := World.block_lt_of_cell? _ _ hw257_3; first | rwa [add_block] at this | exact this) GW258.out)) | (dsimp only; exact Nat.ne_of_lt (Nat.lt_of_lt_of_le (by have := World.block_lt_of_cell? _ _ hw257_3; first | rwa [add_block] at this | exact this) GW258.out))) _).trans (hHeld.2.2.2.2.2.2.2))))))))⟩ (fun hHeld => ?_)
          clear hK K
          refine done_ (done_of HT_.out (by kernel_rfl)) ?_
          go_upto_region 11 with (fail)
          go_cut [62] (fun v62 wc => ∃ (kq : Nat) (x62_25 : Bool), v62 = .bool x62_25 ∧ Aside0 (meanderref09_ports.j2 kq t248 x5_2 x62_25 l0_0 l0_1 = some r) ∧ Aside0 (kq ≤ k2) ∧ Aside0 (Kd.R k47 47 wc w.heap.size (fun _ => True) (.slice (some ad256) t248.length co21) t248) ∧ Aside0 (wc.heap[gb247]? = some (.cells #[(.slice (some ad257) l0_0.length c0_0), (.slice A0_1 l0_1.length c0_1)] 29 (0, 0))) ∧ Aside0 (wc.heap[gb258]? = some (.cells #[.int .i64 ((rd_T23 l0_0 ((rd_T47 t248 x5_2).f0)).f0), .int .i64 ((rd_T23 l0_0 ((rd_T47 t248 x5_2).f0)).f1), .int .i64 ((rd_T23 l0_0 ((rd_T47 t248 x5_2).f0)).f2), .int .i64 ((rd_T23 l0_0 ((rd_T47 t248 x5_2).f0)).f3)] 23 (0, 0))) ∧ Aside0 (Below w.heap.size w wc))
          case first =>
           have H := HC26.out
           clear HC26
           by_cases c33 : ((rd_T47 t248 x5_2).f1) = (-1)
           ·rw [if_pos c33] at H
            have c33b0 : (((rd_T47 t248 x5_2).f1) == (-1)) = true := beq_iff_eq.mpr c33
            have c33b1 : (((rd_T47 t248 x5_2).f1) != (-1)) = false := bne_eq_false_iff_eq.mpr c33
            clear c33
            (first | rw [c33b0] | (simp only [i64_w, i32_w]; rw [c33b0]) | skip)
            have H' := Aside0.mk H
            clear H
            have p259 : 0 ≤ (x5_2 : Int) := of_decide_eq_true (by first | (with_reducible assumption) | assumption)
            have q259 : x5_2 < (t248.length : Int) := of_decide_eq_true (by first | (with_reducible assumption) | assumption)
            obtain ⟨ad259, e259, hx259_0, hx259_1⟩ := at_T47 (Kd.R_reads' HO_3.out).2.2 x5_2 p259 q259
            obtain rfl : ad256 = ad259 := (by injection e259)
            have hn259_0 : ad256.block ≠ gb258 := Kd.own_blk (Kd.R_ne HO_3.out BK258.out (by decide))
            have hn259_1 : ad256.block ≠ gb258 := Kd.own_blk (Kd.R_ne HO_3.out BK258.out (by decide))
            have hn259_2 : ad256.block ≠ gb258 := Kd.own_blk (Kd.R_ne HO_3.out BK258.out (by decide))
            have hn259_3 : ad256.block ≠ gb258 := Kd.own_blk (Kd.R_ne HO_3.out BK258.out (by decide))
            replace hx259_0 := (cell_far (p := ⟨gb258, 0, none⟩) (by first | (rw [add_block]; exact hn259_0) | (show (Addr.add _ _).block ≠ _; rw [add_block]; exact hn259_0) | exact hn259_0) (.int .i64 ((rd_T23 l0_0 ((rd_T47 t248 x5_2).f0)).f0))).trans hx259_0
            replace hx259_1 := (cell_far (p := ⟨gb258, 0, none⟩) (by first | (rw [add_block]; exact hn259_0) | (show (Addr.add _ _).block ≠ _; rw [add_block]; exact hn259_0) | exact hn259_0) (.int .i64 ((rd_T23 l0_0 ((rd_T47 t248 x5_2).f0)).f0))).trans hx259_1
            replace hx259_0 := (cell_far (p := ⟨gb258, 1, none⟩) (by first | (rw [add_block]; exact hn259_1) | (show (Addr.add _ _).block ≠ _; rw [add_block]; exact hn259_1) | exact hn259_1) (.int .i64 ((rd_T23 l0_0 ((rd_T47 t248 x5_2).f0)).f1))).trans hx259_0
            replace hx259_1 := (cell_far (p := ⟨gb258, 1, none⟩) (by first | (rw [add_block]; exact hn259_1) | (show (Addr.add _ _).block ≠ _; rw [add_block]; exact hn259_1) | exact hn259_1) (.int .i64 ((rd_T23 l0_0 ((rd_T47 t248 x5_2).f0)).f1))).trans hx259_1
            replace hx259_0 := (cell_far (p := ⟨gb258, 2, none⟩) (by first | (rw [add_block]; exact hn259_2) | (show (Addr.add _ _).block ≠ _; rw [add_block]; exact hn259_2) | exact hn259_2) (.int .i64 ((rd_T23 l0_0 ((rd_T47 t248 x5_2).f0)).f2))).trans hx259_0
            replace hx259_1 := (cell_far (p := ⟨gb258, 2, none⟩) (by first | (rw [add_block]; exact hn259_2) | (show (Addr.add _ _).block ≠ _; rw [add_block]; exact hn259_2) | exact hn259_2) (.int .i64 ((rd_T23 l0_0 ((rd_T47 t248 x5_2).f0)).f2))).trans hx259_1
            replace hx259_0 := (cell_far (p := ⟨gb258, 3, none⟩) (by first | (rw [add_block]; exact hn259_3) | (show (Addr.add _ _).block ≠ _; rw [add_block]; exact hn259_3) | exact hn259_3) (.int .i64 ((rd_T23 l0_0 ((rd_T47 t248 x5_2).f0)).f3))).trans hx259_0
            replace hx259_1 := (cell_far (p := ⟨gb258, 3, none⟩) (by first | (rw [add_block]; exact hn259_3) | (show (Addr.add _ _).block ≠ _; rw [add_block]; exact hn259_3) | exact hn259_3) (.int .i64 ((rd_T23 l0_0 ((rd_T47 t248 x5_2).f0)).f3))).trans hx259_1
            clear hn259_0
            clear hn259_1
            clear hn259_2
            clear hn259_3
            replace p259 := eq_true p259
            replace q259 := eq_true q259
            go_wp2
            go_meet
            case rel => exact ⟨_, (true), (by first | rfl | (simp; done) | (simp [*]; done)), H', ⟨by have := HK1.out; have := HK2.out; first | omega | exact Nat.le_refl _⟩, ⟨by (with_reducible repeat (first | apply Kd.R_alloc | apply Kd.R_drewN | apply Kd.R_drew)); exact Kd.R_mono (Kd.R_far (p := ⟨gb258, 3, none⟩) (Kd.R_far (p := ⟨gb258, 2, none⟩) (Kd.R_far (p := ⟨gb258, 1, none⟩) (Kd.R_far (p := ⟨gb258, 0, none⟩) (Kd.R_types HO_3.out BK258.out (by decide)) (fun _ hk => hk.2) (.int .i64 ((rd_T23 l0_0 ((rd_T47 t248 x5_2).f0)).f0))) (fun _ hk => hk.2) (.int .i64 ((rd_T23 l0_0 ((rd_T47 t248 x5_2).f0)).f1))) (fun _ hk => hk.2) (.int .i64 ((rd_T23 l0_0 ((rd_T47 t248 x5_2).f0)).f2))) (fun _ hk => hk.2) (.int .i64 ((rd_T23 l0_0 ((rd_T47 t248 x5_2).f0)).f3))) (fun _ hk => trivial)⟩, ⟨by (with_reducible repeat (first | refine blk_drewN ?_ _ | refine blk_drew ?_ | refine blk_alloc ?_ _)); refine blk_far ?_ NB247_258.out _; (with_reducible repeat (first | refine blk_drewN ?_ _ | refine blk_drew ?_ | refine blk_alloc ?_ _)); refine blk_far ?_ NB247_258.out _; (with_reducible repeat (first | refine blk_drewN ?_ _ | refine blk_drew ?_ | refine blk_alloc ?_ _)); refine blk_far ?_ NB247_258.out _; (with_reducible repeat (first | refine blk_drewN ?_ _ | refine blk_drew ?_ | refine blk_alloc ?_ _)); refine blk_far ?_ NB247_258.out _; (with_reducible repeat (first | refine blk_drewN ?_ _ | refine blk_drew ?_ | refine blk_alloc ?_ _)); exact BK247.out⟩, ⟨by (with_reducible repeat (first | refine blk_drewN ?_ _ | refine blk_drew ?_ | refine blk_alloc ?_ _)); refine blk_put (cs := #[.int .i64 ((rd_T23 l0_0 ((rd_T47 t248 x5_2).f0)).f0), .int .i64 ((rd_T23 l0_0 ((rd_T47 t248 x5_2).f0)).f1), .int .i64 ((rd_T23 l0_0 ((rd_T47 t248 x5_2).f0)).f2), .int .i64 0]) ?_ 3 _ rfl; (with_reducible repeat (first | refine blk_drewN ?_ _ | refine blk_drew ?_ | refine blk_alloc ?_ _)); refine blk_put (cs := #[.int .i64 ((rd_T23 l0_0 ((rd_T47 t248 x5_2).f0)).f0), .int .i64 ((rd_T23 l0_0 ((rd_T47 t248 x5_2).f0)).f1), .int .i64 0, .int .i64 0]) ?_ 2 _ rfl; (with_reducible repeat (first | refine blk_drewN ?_ _ | refine blk_drew ?_ | refine blk_alloc ?_ _)); refine blk_put (cs := #[.int .i64 ((rd_T23 l0_0 ((rd_T47 t248 x5_2).f0)).f0), .int .i64 0, .int .i64 0, .int .i64 0]) ?_ 1 _ rfl; (with_reducible repeat (first | refine blk_drewN ?_ _ | refine blk_drew ?_ | refine blk_alloc ?_ _)); refine blk_put (cs := #[.int .i64 0, .int .i64 0, .int .i64 0, .int .i64 0]) ?_ 0 _ rfl; (with_reducible repeat (first | refine blk_drewN ?_ _ | refine blk_drew ?_ | refine blk_alloc ?_ _)); exact BK258.out⟩, ⟨by repeat (first | (with_reducible first | exact HB.out | apply below_alloc | apply pw_below_drewN | apply below_drew1 | refine below_set ?_ GE247.out | refine below_set ?_ GE258.out) | exact HB.out)⟩⟩
           ·rw [if_neg c33] at H
            have c33b0 : (((rd_T47 t248 x5_2).f1) == (-1)) = false := beq_eq_false_iff_ne.mpr c33
            have c33b1 : (((rd_T47 t248 x5_2).f1) != (-1)) = true := bne_iff_ne.mpr c33
            (first | rw [c33b0] | (simp only [i64_w, i32_w]; rw [c33b0]) | skip)
            by_cases c34 : ((rd_T23 l0_0 ((rd_T47 t248 x5_2).f0)).f0) = 6
            ·rw [if_pos c34] at H
             have c34b0 : (((rd_T23 l0_0 ((rd_T47 t248 x5_2).f0)).f0) == 6) = true := beq_iff_eq.mpr c34
             have c34b1 : (((rd_T23 l0_0 ((rd_T47 t248 x5_2).f0)).f0) != 6) = false := bne_eq_false_iff_eq.mpr c34
             clear c34
             have H' := Aside0.mk H
             clear H
             have p259 : 0 ≤ (x5_2 : Int) := of_decide_eq_true (by first | (with_reducible assumption) | assumption)
             have q259 : x5_2 < (t248.length : Int) := of_decide_eq_true (by first | (with_reducible assumption) | assumption)
             obtain ⟨ad259, e259, hx259_0, hx259_1⟩ := at_T47 (Kd.R_reads' HO_3.out).2.2 x5_2 p259 q259
             obtain rfl : ad256 = ad259 := (by injection e259)
             have hn259_0 : ad256.block ≠ gb258 := Kd.own_blk (Kd.R_ne HO_3.out BK258.out (by decide))
             have hn259_1 : ad256.block ≠ gb258 := Kd.own_blk (Kd.R_ne HO_3.out BK258.out (by decide))
             have hn259_2 : ad256.block ≠ gb258 := Kd.own_blk (Kd.R_ne HO_3.out BK258.out (by decide))
             have hn259_3 : ad256.block ≠ gb258 := Kd.own_blk (Kd.R_ne HO_3.out BK258.out (by decide))
             replace hx259_0 := (cell_far (p := ⟨gb258, 0, none⟩) (by first | (rw [add_block]; exact hn259_0) | (show (Addr.add _ _).block ≠ _; rw [add_block]; exact hn259_0) | exact hn259_0) (.int .i64 ((rd_T23 l0_0 ((rd_T47 t248 x5_2).f0)).f0))).trans hx259_0
             replace hx259_1 := (cell_far (p := ⟨gb258, 0, none⟩) (by first | (rw [add_block]; exact hn259_0) | (show (Addr.add _ _).block ≠ _; rw [add_block]; exact hn259_0) | exact hn259_0) (.int .i64 ((rd_T23 l0_0 ((rd_T47 t248 x5_2).f0)).f0))).trans hx259_1
             replace hx259_0 := (cell_far (p := ⟨gb258, 1, none⟩) (by first | (rw [add_block]; exact hn259_1) | (show (Addr.add _ _).block ≠ _; rw [add_block]; exact hn259_1) | exact hn259_1) (.int .i64 ((rd_T23 l0_0 ((rd_T47 t248 x5_2).f0)).f1))).trans hx259_0
             replace hx259_1 := (cell_far (p := ⟨gb258, 1, none⟩) (by first | (rw [add_block]; exact hn259_1) | (show (Addr.add _ _).block ≠ _; rw [add_block]; exact hn259_1) | exact hn259_1) (.int .i64 ((rd_T23 l0_0 ((rd_T47 t248 x5_2).f0)).f1))).trans hx259_1
             replace hx259_0 := (cell_far (p := ⟨gb258, 2, none⟩) (by first | (rw [add_block]; exact hn259_2) | (show (Addr.add _ _).block ≠ _; rw [add_block]; exact hn259_2) | exact hn259_2) (.int .i64 ((rd_T23 l0_0 ((rd_T47 t248 x5_2).f0)).f2))).trans hx259_0
             replace hx259_1 := (cell_far (p := ⟨gb258, 2, none⟩) (by first | (rw [add_block]; exact hn259_2) | (show (Addr.add _ _).block ≠ _; rw [add_block]; exact hn259_2) | exact hn259_2) (.int .i64 ((rd_T23 l0_0 ((rd_T47 t248 x5_2).f0)).f2))).trans hx259_1
             replace hx259_0 := (cell_far (p := ⟨gb258, 3, none⟩) (by first | (rw [add_block]; exact hn259_3) | (show (Addr.add _ _).block ≠ _; rw [add_block]; exact hn259_3) | exact hn259_3) (.int .i64 ((rd_T23 l0_0 ((rd_T47 t248 x5_2).f0)).f3))).trans hx259_0
             replace hx259_1 := (cell_far (p := ⟨gb258, 3, none⟩) (by first | (rw [add_block]; exact hn259_3) | (show (Addr.add _ _).block ≠ _; rw [add_block]; exact hn259_3) | exact hn259_3) (.int .i64 ((rd_T23 l0_0 ((rd_T47 t248 x5_2).f0)).f3))).trans hx259_1
             clear hn259_0
             clear hn259_1
             clear hn259_2
             clear hn259_3
             replace p259 := eq_true p259
             replace q259 := eq_true q259
             have hnb35 := NB258_247.out
             have hnc35 := NB247_258.out
             have hcz36_0 : w28.cell? ⟨gb258, 0, none⟩ = some (.int .i64 0) := (blk_cell BK258.out 0).trans rfl
             have hcz36_1 : w28.cell? ⟨gb258, 1, none⟩ = some (.int .i64 0) := (blk_cell BK258.out 1).trans rfl
             have hcz36_2 : w28.cell? ⟨gb258, 2, none⟩ = some (.int .i64 0) := (blk_cell BK258.out 2).trans rfl
             have hcz36_3 : w28.cell? ⟨gb258, 3, none⟩ = some (.int .i64 0) := (blk_cell BK258.out 3).trans rfl
             have hfz36_0 := blk_frozen BK258.out 0
             have hfz36_1 := blk_frozen BK258.out 1
             have hfz36_2 := blk_frozen BK258.out 2
             have hfz36_3 := blk_frozen BK258.out 3
             go_wp2
             go_meet
             case rel => exact ⟨_, (false), (by first | rfl | (simp; done) | (simp [*]; done)), H', ⟨by have := HK1.out; have := HK2.out; first | omega | exact Nat.le_refl _⟩, ⟨by (with_reducible repeat (first | apply Kd.R_alloc | apply Kd.R_drewN | apply Kd.R_drew)); exact Kd.R_mono (Kd.R_far (p := ⟨gb258, 3, none⟩) (Kd.R_far (p := ⟨gb258, 2, none⟩) (Kd.R_far (p := ⟨gb258, 1, none⟩) (Kd.R_far (p := ⟨gb258, 0, none⟩) (Kd.R_types HO_3.out BK258.out (by decide)) (fun _ hk => hk.2) (.int .i64 ((rd_T23 l0_0 ((rd_T47 t248 x5_2).f0)).f0))) (fun _ hk => hk.2) (.int .i64 ((rd_T23 l0_0 ((rd_T47 t248 x5_2).f0)).f1))) (fun _ hk => hk.2) (.int .i64 ((rd_T23 l0_0 ((rd_T47 t248 x5_2).f0)).f2))) (fun _ hk => hk.2) (.int .i64 ((rd_T23 l0_0 ((rd_T47 t248 x5_2).f0)).f3))) (fun _ hk => trivial)⟩, ⟨by (with_reducible repeat (first | refine blk_drewN ?_ _ | refine blk_drew ?_ | refine blk_alloc ?_ _)); refine blk_far ?_ NB247_258.out _; (with_reducible repeat (first | refine blk_drewN ?_ _ | refine blk_drew ?_ | refine blk_alloc ?_ _)); refine blk_far ?_ NB247_258.out _; (with_reducible repeat (first | refine blk_drewN ?_ _ | refine blk_drew ?_ | refine blk_alloc ?_ _)); refine blk_far ?_ NB247_258.out _; (with_reducible repeat (first | refine blk_drewN ?_ _ | refine blk_drew ?_ | refine blk_alloc ?_ _)); refine blk_far ?_ NB247_258.out _; (with_reducible repeat (first | refine blk_drewN ?_ _ | refine blk_drew ?_ | refine blk_alloc ?_ _)); exact BK247.out⟩, ⟨by (with_reducible repeat (first | refine blk_drewN ?_ _ | refine blk_drew ?_ | refine blk_alloc ?_ _)); refine blk_put (cs := #[.int .i64 ((rd_T23 l0_0 ((rd_T47 t248 x5_2).f0)).f0), .int .i64 ((rd_T23 l0_0 ((rd_T47 t248 x5_2).f0)).f1), .int .i64 ((rd_T23 l0_0 ((rd_T47 t248 x5_2).f0)).f2), .int .i64 0]) ?_ 3 _ rfl; (with_reducible repeat (first | refine blk_drewN ?_ _ | refine blk_drew ?_ | refine blk_alloc ?_ _)); refine blk_put (cs := #[.int .i64 ((rd_T23 l0_0 ((rd_T47 t248 x5_2).f0)).f0), .int .i64 ((rd_T23 l0_0 ((rd_T47 t248 x5_2).f0)).f1), .int .i64 0, .int .i64 0]) ?_ 2 _ rfl; (with_reducible repeat (first | refine blk_drewN ?_ _ | refine blk_drew ?_ | refine blk_alloc ?_ _)); refine blk_put (cs := #[.int .i64 ((rd_T23 l0_0 ((rd_T47 t248 x5_2).f0)).f0), .int .i64 0, .int .i64 0, .int .i64 0]) ?_ 1 _ rfl; (with_reducible repeat (first | refine blk_drewN ?_ _ | refine blk_drew ?_ | refine blk_alloc ?_ _)); refine blk_put (cs := #[.int .i64 0, .int .i64 0, .int .i64 0, .int .i64 0]) ?_ 0 _ rfl; (with_reducible repeat (first | refine blk_drewN ?_ _ | refine blk_drew ?_ | refine blk_alloc ?_ _)); exact BK258.out⟩, ⟨by repeat (first | (with_reducible first | exact HB.out | apply below_alloc | apply pw_below_drewN | apply below_drew1 | refine below_set ?_ GE247.out | refine below_set ?_ GE258.out) | exact HB.out)⟩⟩
            ·rw [if_neg c34] at H
             have c34b0 : (((rd_T23 l0_0 ((rd_T47 t248 x5_2).f0)).f0) == 6) = false := beq_eq_false_iff_ne.mpr c34
             have c34b1 : (((rd_T23 l0_0 ((rd_T47 t248 x5_2).f0)).f0) != 6) = true := bne_iff_ne.mpr c34
             have H' := Aside0.mk H
             clear H
             have p259 : 0 ≤ (x5_2 : Int) := of_decide_eq_true (by first | (with_reducible assumption) | assumption)
             have q259 : x5_2 < (t248.length : Int) := of_decide_eq_true (by first | (with_reducible assumption) | assumption)
             obtain ⟨ad259, e259, hx259_0, hx259_1⟩ := at_T47 (Kd.R_reads' HO_3.out).2.2 x5_2 p259 q259
             obtain rfl : ad256 = ad259 := (by injection e259)
             have hn259_0 : ad256.block ≠ gb258 := Kd.own_blk (Kd.R_ne HO_3.out BK258.out (by decide))
             have hn259_1 : ad256.block ≠ gb258 := Kd.own_blk (Kd.R_ne HO_3.out BK258.out (by decide))
             have hn259_2 : ad256.block ≠ gb258 := Kd.own_blk (Kd.R_ne HO_3.out BK258.out (by decide))
             have hn259_3 : ad256.block ≠ gb258 := Kd.own_blk (Kd.R_ne HO_3.out BK258.out (by decide))
             replace hx259_0 := (cell_far (p := ⟨gb258, 0, none⟩) (by first | (rw [add_block]; exact hn259_0) | (show (Addr.add _ _).block ≠ _; rw [add_block]; exact hn259_0) | exact hn259_0) (.int .i64 ((rd_T23 l0_0 ((rd_T47 t248 x5_2).f0)).f0))).trans hx259_0
             replace hx259_1 := (cell_far (p := ⟨gb258, 0, none⟩) (by first | (rw [add_block]; exact hn259_0) | (show (Addr.add _ _).block ≠ _; rw [add_block]; exact hn259_0) | exact hn259_0) (.int .i64 ((rd_T23 l0_0 ((rd_T47 t248 x5_2).f0)).f0))).trans hx259_1
             replace hx259_0 := (cell_far (p := ⟨gb258, 1, none⟩) (by first | (rw [add_block]; exact hn259_1) | (show (Addr.add _ _).block ≠ _; rw [add_block]; exact hn259_1) | exact hn259_1) (.int .i64 ((rd_T23 l0_0 ((rd_T47 t248 x5_2).f0)).f1))).trans hx259_0
             replace hx259_1 := (cell_far (p := ⟨gb258, 1, none⟩) (by first | (rw [add_block]; exact hn259_1) | (show (Addr.add _ _).block ≠ _; rw [add_block]; exact hn259_1) | exact hn259_1) (.int .i64 ((rd_T23 l0_0 ((rd_T47 t248 x5_2).f0)).f1))).trans hx259_1
             replace hx259_0 := (cell_far (p := ⟨gb258, 2, none⟩) (by first | (rw [add_block]; exact hn259_2) | (show (Addr.add _ _).block ≠ _; rw [add_block]; exact hn259_2) | exact hn259_2) (.int .i64 ((rd_T23 l0_0 ((rd_T47 t248 x5_2).f0)).f2))).trans hx259_0
             replace hx259_1 := (cell_far (p := ⟨gb258, 2, none⟩) (by first | (rw [add_block]; exact hn259_2) | (show (Addr.add _ _).block ≠ _; rw [add_block]; exact hn259_2) | exact hn259_2) (.int .i64 ((rd_T23 l0_0 ((rd_T47 t248 x5_2).f0)).f2))).trans hx259_1
             replace hx259_0 := (cell_far (p := ⟨gb258, 3, none⟩) (by first | (rw [add_block]; exact hn259_3) | (show (Addr.add _ _).block ≠ _; rw [add_block]; exact hn259_3) | exact hn259_3) (.int .i64 ((rd_T23 l0_0 ((rd_T47 t248 x5_2).f0)).f3))).trans hx259_0
             replace hx259_1 := (cell_far (p := ⟨gb258, 3, none⟩) (by first | (rw [add_block]; exact hn259_3) | (show (Addr.add _ _).block ≠ _; rw [add_block]; exact hn259_3) | exact hn259_3) (.int .i64 ((rd_T23 l0_0 ((rd_T47 t248 x5_2).f0)).f3))).trans hx259_1
             clear hn259_0
             clear hn259_1
             clear hn259_2
             clear hn259_3
             replace p259 := eq_true p259
             replace q259 := eq_true q259
             have hnb37 := NB258_247.out
             have hnc37 := NB247_258.out
             have hcz38_0 : w28.cell? ⟨gb258, 0, none⟩ = some (.int .i64 0) := (blk_cell BK258.out 0).trans rfl
             have hcz38_1 : w28.cell? ⟨gb258, 1, none⟩ = some (.int .i64 0) := (blk_cell BK258.out 1).trans rfl
             have hcz38_2 : w28.cell? ⟨gb258, 2, none⟩ = some (.int .i64 0) := (blk_cell BK258.out 2).trans rfl
             have hcz38_3 : w28.cell? ⟨gb258, 3, none⟩ = some (.int .i64 0) := (blk_cell BK258.out 3).trans rfl
             have hfz38_0 := blk_frozen BK258.out 0
             have hfz38_1 := blk_frozen BK258.out 1
             have hfz38_2 := blk_frozen BK258.out 2
             have hfz38_3 := blk_frozen BK258.out 3
             go_wp2
             go_meet
             case rel => exact ⟨_, ((((rd_T23 l0_0 ((rd_T47 t248 x5_2).f0)).f0) != 7)), (by first | rfl | (simp; done) | (simp [*]; done)), H', ⟨by have := HK1.out; have := HK2.out; first | omega | exact Nat.le_refl _⟩, ⟨by (with_reducible repeat (first | apply Kd.R_alloc | apply Kd.R_drewN | apply Kd.R_drew)); exact Kd.R_mono (Kd.R_far (p := ⟨gb258, 3, none⟩) (Kd.R_far (p := ⟨gb258, 2, none⟩) (Kd.R_far (p := ⟨gb258, 1, none⟩) (Kd.R_far (p := ⟨gb258, 0, none⟩) (Kd.R_types HO_3.out BK258.out (by decide)) (fun _ hk => hk.2) (.int .i64 ((rd_T23 l0_0 ((rd_T47 t248 x5_2).f0)).f0))) (fun _ hk => hk.2) (.int .i64 ((rd_T23 l0_0 ((rd_T47 t248 x5_2).f0)).f1))) (fun _ hk => hk.2) (.int .i64 ((rd_T23 l0_0 ((rd_T47 t248 x5_2).f0)).f2))) (fun _ hk => hk.2) (.int .i64 ((rd_T23 l0_0 ((rd_T47 t248 x5_2).f0)).f3))) (fun _ hk => trivial)⟩, ⟨by (with_reducible repeat (first | refine blk_drewN ?_ _ | refine blk_drew ?_ | refine blk_alloc ?_ _)); refine blk_far ?_ NB247_258.out _; (with_reducible repeat (first | refine blk_drewN ?_ _ | refine blk_drew ?_ | refine blk_alloc ?_ _)); refine blk_far ?_ NB247_258.out _; (with_reducible repeat (first | refine blk_drewN ?_ _ | refine blk_drew ?_ | refine blk_alloc ?_ _)); refine blk_far ?_ NB247_258.out _; (with_reducible repeat (first | refine blk_drewN ?_ _ | refine blk_drew ?_ | refine blk_alloc ?_ _)); refine blk_far ?_ NB247_258.out _; (with_reducible repeat (first | refine blk_drewN ?_ _ | refine blk_drew ?_ | refine blk_alloc ?_ _)); exact BK247.out⟩, ⟨by (with_reducible repeat (first | refine blk_drewN ?_ _ | refine blk_drew ?_ | refine blk_alloc ?_ _)); refine blk_put (cs := #[.int .i64 ((rd_T23 l0_0 ((rd_T47 t248 x5_2).f0)).f0), .int .i64 ((rd_T23 l0_0 ((rd_T47 t248 x5_2).f0)).f1), .int .i64 ((rd_T23 l0_0 ((rd_T47 t248 x5_2).f0)).f2), .int .i64 0]) ?_ 3 _ rfl; (with_reducible repeat (first | refine blk_drewN ?_ _ | refine blk_drew ?_ | refine blk_alloc ?_ _)); refine blk_put (cs := #[.int .i64 ((rd_T23 l0_0 ((rd_T47 t248 x5_2).f0)).f0), .int .i64 ((rd_T23 l0_0 ((rd_T47 t248 x5_2).f0)).f1), .int .i64 0, .int .i64 0]) ?_ 2 _ rfl; (with_reducible repeat (first | refine blk_drewN ?_ _ | refine blk_drew ?_ | refine blk_alloc ?_ _)); refine blk_put (cs := #[.int .i64 ((rd_T23 l0_0 ((rd_T47 t248 x5_2).f0)).f0), .int .i64 0, .int .i64 0, .int .i64 0]) ?_ 1 _ rfl; (with_reducible repeat (first | refine blk_drewN ?_ _ | refine blk_drew ?_ | refine blk_alloc ?_ _)); refine blk_put (cs := #[.int .i64 0, .int .i64 0, .int .i64 0, .int .i64 0]) ?_ 0 _ rfl; (with_reducible repeat (first | refine blk_drewN ?_ _ | refine blk_drew ?_ | refine blk_alloc ?_ _)); exact BK258.out⟩, ⟨by repeat (first | (with_reducible first | exact HB.out | apply below_alloc | apply pw_below_drewN | apply below_drew1 | refine below_set ?_ GE247.out | refine below_set ?_ GE258.out) | exact HB.out)⟩⟩
          case rest =>
           clear HC26
           try clear c1
           try clear c2
           try clear p2
           try clear q2
           try clear hx2
           try clear c3
           try clear c6
           try clear c6b0
           try clear p6
           try clear c7
           try clear c7b0
           try clear c8
           try clear c8b0
           try clear c8b1
           try clear c12
           try clear c12b0
           try clear c12b1
           try clear c22
           try clear c22b0
           try clear c23
           try clear c23b0
           try clear c24
           try clear c24b0
           try clear c25
           try clear c25b0
           try clear p25
           try clear q25
           try clear hx25
           try clear c33
           try clear c33b0
           try clear c33b1
           try clear c34
           try clear c34b0
           try clear c34b1
           try clear c35
           try clear c37
           try clear hcz36_0
           try clear hcz36_1
           try clear hcz36_2
           try clear hcz36_3
           try clear hcz38_0
           try clear hcz38_1
           try clear hcz38_2
           try clear hcz38_3
           try clear hcz4_0
           try clear hcz4_1
           try clear hfz36_0
           try clear hfz36_1
           try clear hfz36_2
           try clear hfz36_3
           try clear hfz38_0
           try clear hfz38_1
           try clear hfz38_2
           try clear hfz38_3
           try clear hfz4_0
           try clear hfz4_1
           try clear hx251_0
           try clear hx251_1
           try clear hx252_0
           try clear hx252_1
           try clear hx256_0
           try clear hx256_1
           try clear hx257_0
           try clear hx257_1
           try clear hx257_2
           try clear hx257_3
           try clear hx259_0
           try clear hx259_1
           try clear p2
           try clear p251
           try clear p252
           try clear p256
           try clear p257
           try clear p259
           try clear p6
           try clear q2
           try clear q251
           try clear q252
           try clear q256
           try clear q257
           try clear q259
           obtain ⟨kq, x62_25, rfl, HA, HJ25, HO_3, BK247, BK258, HB⟩ := hcut
           cases kq with
           | zero => exact absurd HA.out (by simp [meanderref09_ports.j2])
           | succ kj25 =>
            have H := HA.out
            clear HA
            simp only [meanderref09_ports.j2] at H
            by_cases c39 : x62_25 = true
            ·subst c39
             have H1 : (meanderref09_ports.l1 kj25 t248 (wrap64 (x5_2 + 1)) l0_0 l0_1) = some r := by rw [if_pos rfl] at H; exact H
             clear H
             have H := H1
             clear H1
             have H' := Aside0.mk H
             clear H
             go_wp2
             go_roundg kj25
             case measure => have := HK1.out; have := HK2.out; have := HJ25.out; omega
             case rel => exact ⟨(wrap64 (x5_2 + 1)), (by first | rfl | (simp; done) | (simp [*]; done)), H', ⟨by have := HK1.out; have := HK2.out; have := HJ25.out; omega⟩, ⟨by (with_reducible repeat (first | apply Kd.R_alloc | apply Kd.R_drewN | apply Kd.R_drew)); exact HO_3.out⟩, ⟨by (with_reducible repeat (first | refine blk_drewN ?_ _ | refine blk_drew ?_ | refine blk_alloc ?_ _)); exact BK247.out⟩, ⟨by repeat (first | (with_reducible first | exact HB.out | apply below_alloc | apply pw_below_drewN | apply below_drew1 | refine below_set ?_ GE247.out | refine below_set ?_ GE258.out) | exact HB.out)⟩⟩
            ·replace c39 := Bool.eq_false_iff.mpr c39
             subst c39
             have H1 : (if 0 ≤ x5_2 then (if x5_2 < (t248.length : Int) then ((meanderref08_Prev.f kj25 l0_0 l0_1 ((rd_T47 t248 x5_2).f0) ((rd_T47 t248 x5_2).f1)).bind fun t261 => (if 0 < (t261.length : Int) then (if 0 ≤ (rd t261 0) then (if (rd t261 0) < (l0_0.length : Int) then (if ((rd_T23 l0_0 (rd t261 0)).f0) = 5 then (meanderref09_ports.l1 kj25 t248 (wrap64 (x5_2 + 1)) l0_0 l0_1) else (some 15)) else (none)) else (none)) else (none))) else (none)) else (none)) = some r := by rw [if_neg (show ¬ (false = true) by decide)] at H; exact H
             clear H
             have H := H1
             clear H1
             by_cases c40 : 0 ≤ x5_2
             ·rw [if_pos c40] at H
              have c40b0 : decide (0 ≤ x5_2) = true := decide_eq_true c40
              clear c40
              by_cases c41 : x5_2 < (t248.length : Int)
              ·rw [if_pos c41] at H
               have c41b0 : decide (x5_2 < (t248.length : Int)) = true := decide_eq_true c41
               clear c41
               replace H := Option.bind_eq_some_iff.mp H
               obtain ⟨t261, A420, H⟩ := H
               replace H : (if 0 < (t261.length : Int) then (if 0 ≤ (rd t261 0) then (if (rd t261 0) < (l0_0.length : Int) then (if ((rd_T23 l0_0 (rd t261 0)).f0) = 5 then (meanderref09_ports.l1 kj25 t248 (wrap64 (x5_2 + 1)) l0_0 l0_1) else (some 15)) else (none)) else (none)) else (none)) = some r := H
               have A42 := Aside0.mk A420
               clear A420
               by_cases c43 : 0 < (t261.length : Int)
               ·rw [if_pos c43] at H
                have c43b0 : decide (0 < (t261.length : Int)) = true := decide_eq_true c43
                have c43b1 : decide (0 < t261.length) = true := decide_eq_true (by omega)
                clear c43
                by_cases c44 : 0 ≤ (rd t261 0)
                ·rw [if_pos c44] at H
                 have c44b0 : decide (0 ≤ (rd t261 0)) = true := decide_eq_true c44
                 clear c44
                 by_cases c45 : (rd t261 0) < (l0_0.length : Int)
                 ·rw [if_pos c45] at H
                  have c45b0 : decide ((rd t261 0) < (l0_0.length : Int)) = true := decide_eq_true c45
                  clear c45
                  by_cases c46 : ((rd_T23 l0_0 (rd t261 0)).f0) = 5
                  ·rw [if_pos c46] at H
                   have c46b0 : (((rd_T23 l0_0 (rd t261 0)).f0) == 5) = true := beq_iff_eq.mpr c46
                   have c46b1 : (((rd_T23 l0_0 (rd t261 0)).f0) != 5) = false := bne_eq_false_iff_eq.mpr c46
                   clear c46
                   have H' := Aside0.mk H
                   clear H
                   try go_wp2
                   have n0_ := Aside0.mk (Kd.R_drew HO_3.out)
                   have n1_ := Aside0.mk (blk_drew BK247.out)
                   have n2_ := Aside0.mk (blk_drew BK258.out)
                   have n3_ := Aside0.mk (below_drew1 HB.out)
                   clear HO_3
                   clear BK247
                   clear BK258
                   clear HB
                   have HO_3 := n0_
                   have BK247 := n1_
                   have BK258 := n2_
                   have HB := n3_
                   clear n0_ n1_ n2_ n3_
                   have p260 : 0 ≤ (x5_2 : Int) := of_decide_eq_true (by first | (with_reducible assumption) | assumption)
                   have q260 : x5_2 < (t248.length : Int) := of_decide_eq_true (by first | (with_reducible assumption) | assumption)
                   obtain ⟨ad260, e260, hx260_0, hx260_1⟩ := at_T47 (Kd.R_reads' HO_3.out).2.2 x5_2 p260 q260
                   obtain rfl : ad256 = ad260 := (by injection e260)
                   replace p260 := eq_true p260
                   replace q260 := eq_true q260
                   refine start_ (n := 7) (S := fun w' => w'.cell? ⟨gb247, 0, none⟩ = some (.slice (some ad257) l0_0.length c0_0) ∧ w'.cell? ⟨gb247, 1, none⟩ = some (.slice A0_1 l0_1.length c0_1) ∧ w'.cell? (ad256.add ((x5_2).toNat * 2)) = some (.int .i64 ((rd_T47 t248 x5_2).f0)) ∧ w'.cell? ⟨(ad256.add ((x5_2).toNat * 2)).block, (ad256.add ((x5_2).toNat * 2)).off + 1, none⟩ = some (.int .i64 ((rd_T47 t248 x5_2).f1))) (ds := []) #[false, false, false, false, false, false, false] (by kernel_rfl) rfl rfl ⟨(blk_cell BK247.out 0).trans rfl, (blk_cell BK247.out 1).trans rfl, hx260_0, hx260_1⟩ (fun hHeld => ?_)
                   generalize wc.drew = w47 at HO_3 BK247 BK258 HB hx260_0 hx260_1 hHeld ⊢
                   refine pure_ (i := 1) (N := some 64) (v := ?_) (a' := ?_) #[false, true, false, false, false, false, false] rfl rfl (by kernel_rfl) (fun _ _ _ h => h) (Or.inl ⟨by rfl, ?_⟩) ?_ ?_
                   rotate_left
                   ·intro w'
                    go_simp
                    with_reducible rfl
                   rotate_left
                   ·simp only [Act.put, List.setIfInBounds_toArray, List.set_cons_zero, List.set_cons_succ, i64_w, i32_w]
                    rfl
                   refine pure_ (i := 2) (N := some 65) (v := ?_) (a' := ?_) #[false, true, true, false, false, false, false] rfl rfl (by kernel_rfl) (fun _ _ _ h => h) (Or.inl ⟨by rfl, ?_⟩) ?_ ?_
                   rotate_left
                   ·intro w'
                    go_simp
                    with_reducible rfl
                   rotate_left
                   ·simp only [Act.put, List.setIfInBounds_toArray, List.set_cons_zero, List.set_cons_succ, i64_w, i32_w]
                    rfl
                   refine pure_ (i := 3) (N := some 66) (v := ?_) (a' := ?_) #[false, true, true, true, false, false, false] rfl rfl (by kernel_rfl) (fun _ _ _ h => h) (Or.inl ⟨by rfl, ?_⟩) ?_ ?_
                   rotate_left
                   ·intro w'
                    go_simp
                    with_reducible rfl
                   rotate_left
                   ·simp only [Act.put, List.setIfInBounds_toArray, List.set_cons_zero, List.set_cons_succ, i64_w, i32_w]
                    rfl
                   refine take_ (i := 0) (N := some 63) (v := ?_) (a' := ?_) #[true, true, true, true, false, false, false] rfl rfl (by kernel_rfl) (fun _ _ _ h => h) (Or.inl ⟨by rfl, ?_⟩) hHeld ?_ ?_
                   rotate_left
                   ·rintro w' ⟨s0, s1, s2, s3⟩
                    go_simp
                    with_reducible rfl
                   rotate_left
                   ·simp only [Act.put, List.setIfInBounds_toArray, List.set_cons_zero, List.set_cons_succ, i64_w, i32_w]
                    rfl
                   refine take_ (i := 4) (N := some 67) (v := ?_) (a' := ?_) #[true, true, true, true, true, false, false] rfl rfl (by kernel_rfl) (fun _ _ _ h => h) (Or.inl ⟨by rfl, ?_⟩) hHeld ?_ ?_
                   rotate_left
                   ·rintro w' ⟨s0, s1, s2, s3⟩
                    go_simp
                    with_reducible rfl
                   rotate_left
                   ·simp only [Act.put, List.setIfInBounds_toArray, List.set_cons_zero, List.set_cons_succ, i64_w, i32_w]
                    rfl
                   refine one_ (i := 5) (N := some 68) #[true, true, true, true, true, true, false] rfl rfl (by kernel_rfl) (by decide) (fun K hK => ?_)
                   refine goes_ Try.func64 (by kernel_rfl) rfl #[.agg #[.slice (some ad257) l0_0.length c0_0, .slice A0_1 l0_1.length c0_1], .agg #[.int .i64 ((rd_T47 t248 x5_2).f0), .int .i64 ((rd_T47 t248 x5_2).f1)]] (by rfl) rfl rfl (by (try simp only [List.map_toArray, List.map_cons, List.map_nil]); first | done | rfl | (simp only [List.length_drop, List.length_take]; rfl)) ?_
                   with_reducible refine (meanderref08_Prev.calls kj25 _ _ l0_0 _ _ l0_1 ((rd_T47 t248 x5_2).f0) ((rd_T47 t248 x5_2).f1) t261 _ ?side1 ?side2 ?side3 ?side4 A42.out).mono ?_
                   (case side1 => repeat (first | exact (Kd.C_below HR0_0.out HB.out) | (with_reducible refine Kd.C_alloc ?_ _) | (with_reducible refine Kd.C_drewN ?_ _) | (with_reducible refine Kd.C_drew ?_)))
                   (case side2 => exact HC0_0.out)
                   (case side3 => repeat (first | exact (Kd.C_below HR0_1.out HB.out) | (with_reducible refine Kd.C_alloc ?_ _) | (with_reducible refine Kd.C_drewN ?_ _) | (with_reducible refine Kd.C_drew ?_)))
                   (case side4 => exact HC0_1.out)
                   rintro e w48 ⟨v262, rfl, ho0, hb⟩
                   have HS2_ := (hb.cell (World.block_lt_of_cell? _ _ (hHeld.2.2.1))).trans (hHeld.2.2.1)
                   have HS3_ := (hb.cell (World.block_lt_of_cell? _ _ (hHeld.2.2.2))).trans (hHeld.2.2.2)
                   refine ⟨_, rfl, ?_⟩
                   have n0_ := Aside0.mk (Kd.R_below (by (with_reducible repeat (first | apply Kd.R_alloc | apply Kd.R_drewN | apply Kd.R_drew)); exact HO_3.out) hb)
                   have n1_ := Aside0.mk (Kd.R_lower ho0 (below_size (by repeat (first | (with_reducible first | exact HB.out | apply below_alloc | apply pw_below_drewN | apply below_drew1 | refine below_set ?_ GE247.out | refine below_set ?_ GE258.out) | exact HB.out))))
                   have n2_ := Aside0.mk (blk_below (g := gb247) (o := .cells #[.slice (some ad257) l0_0.length c0_0, .slice A0_1 l0_1.length c0_1] 29 (0, 0)) (by (with_reducible repeat (first | refine blk_drewN ?_ _ | refine blk_drew ?_ | refine blk_alloc ?_ _)); exact BK247.out) hb)
                   have n3_ := Aside0.mk (blk_below (g := gb258) (o := .cells #[.int .i64 ((rd_T23 l0_0 ((rd_T47 t248 x5_2).f0)).f0), .int .i64 ((rd_T23 l0_0 ((rd_T47 t248 x5_2).f0)).f1), .int .i64 ((rd_T23 l0_0 ((rd_T47 t248 x5_2).f0)).f2), .int .i64 ((rd_T23 l0_0 ((rd_T47 t248 x5_2).f0)).f3)] 23 (0, 0)) (by (with_reducible repeat (first | refine blk_drewN ?_ _ | refine blk_drew ?_ | refine blk_alloc ?_ _)); exact BK258.out) hb)
                   have n4_ := Aside0.mk (below_step (by repeat (first | (with_reducible first | exact HB.out | apply below_alloc | apply pw_below_drewN | apply below_drew1 | refine below_set ?_ GE247.out | refine below_set ?_ GE258.out) | exact HB.out)) hb)
                   clear HO_3
                   clear BK247
                   clear BK258
                   clear HB
                   have HO_3 := n0_
                   have HO263 := n1_
                   have BK247 := n2_
                   have BK258 := n3_
                   have HB := n4_
                   clear n0_ n1_ n2_ n3_ n4_
                   (try clear hb)
                   (try clear hb2)
                   (try clear hk)
                   (try clear hi)
                   (try clear ho0)
                   refine hK.out _ _ ⟨(blk_cell BK247.out 0).trans rfl, (blk_cell BK247.out 1).trans rfl, HS2_, HS3_⟩ (fun hHeld => ?_)
                   clear hK K
                   refine norm_ (a' := ?_) ?_ ?_
                   rotate_left
                   ·show Act.put _ (some 68) _ = _
                    simp only [Act.put, List.setIfInBounds_toArray, List.set_cons_zero, List.set_cons_succ, i64_w, i32_w]
                    rfl
                   refine pure_ (i := 6) (N := some 7) (v := ?_) (a' := ?_) #[true, true, true, true, true, true, true] rfl rfl (by kernel_rfl) (fun _ _ _ h => h) (Or.inl ⟨by rfl, ?_⟩) ?_ ?_
                   rotate_left
                   ·intro w'
                    go_simp
                    with_reducible rfl
                   rotate_left
                   ·simp only [Act.put, List.setIfInBounds_toArray, List.set_cons_zero, List.set_cons_succ, i64_w, i32_w]
                    rfl
                   refine done_ (by kernel_rfl) ?_
                   try go_wp2
                   have n0_ := Aside0.mk (Kd.R_drew HO_3.out)
                   have n1_ := Aside0.mk (Kd.R_drew HO263.out)
                   have n2_ := Aside0.mk (blk_drew BK247.out)
                   have n3_ := Aside0.mk (blk_drew BK258.out)
                   have n4_ := Aside0.mk (below_drew1 HB.out)
                   clear HO_3
                   clear HO263
                   clear BK247
                   clear BK258
                   clear HB
                   have HO_3 := n0_
                   have HO263 := n1_
                   have BK247 := n2_
                   have BK258 := n3_
                   have HB := n4_
                   clear n0_ n1_ n2_ n3_ n4_
                   obtain ⟨Ao50, co50, eo50⟩ := Kd.R_slice HO263.out
                   (first | subst eo50 | (injection eo50 with f1_ f2_ f3_; have f4_ := f1_.symm; have f5_ := f3_.symm; clear f1_ f2_ f3_; subst f4_; subst f5_))
                   have p264 : 0 ≤ (0 : Int) := (by omega)
                   have q264 : 0 < (t261.length : Int) := of_decide_eq_true (by first | (with_reducible assumption) | assumption)
                   obtain ⟨ad264, e264, hx264_0⟩ := Kd.at_int (Kd.R_reads' HO263.out).2.2 0 p264 q264
                   cases e264
                   have qi264 : (0 < t261.length) = True := eq_true (by omega)
                   (try rw [show ((0 : Int)).toNat = 0 from rfl] at hx264_0)
                   (try rw [Addr.add_zero'] at hx264_0)
                   replace p264 := eq_true p264
                   replace q264 := eq_true q264
                   have p265 : 0 ≤ ((rd t261 0) : Int) := of_decide_eq_true (by first | (with_reducible assumption) | assumption)
                   have q265 : (rd t261 0) < (l0_0.length : Int) := of_decide_eq_true (by first | (with_reducible assumption) | assumption)
                   obtain ⟨ad265, e265, hx265_0, hx265_1, hx265_2, hx265_3⟩ := at_T23 HR0_0.out (rd t261 0) p265 q265
                   have hw265_3 := hx265_3
                   have hw265_2 := hx265_2
                   have hw265_1 := hx265_1
                   have hw265_0 := hx265_0
                   obtain rfl : ad257 = ad265 := (by injection e265)
                   replace hx265_0 := (HB.out.cell (World.block_lt_of_cell? w _ hx265_0)).trans hx265_0
                   replace hx265_1 := (HB.out.cell (World.block_lt_of_cell? w _ hx265_1)).trans hx265_1
                   replace hx265_2 := (HB.out.cell (World.block_lt_of_cell? w _ hx265_2)).trans hx265_2
                   replace hx265_3 := (HB.out.cell (World.block_lt_of_cell? w _ hx265_3)).trans hx265_3
                   replace p265 := eq_true p265
                   replace q265 := eq_true q265
                   refine start_ (n := 9) (S := fun w' => w'.cell? ⟨gb247, 0, none⟩ = some (.slice (some ad257) l0_0.length c0_0) ∧ w'.cell? ⟨gb247, 1, none⟩ = some (.slice A0_1 l0_1.length c0_1) ∧ w'.cell? ad264 = some (.int .i64 (rd t261 0)) ∧ w'.cell? (ad257.add (((rd t261 0)).toNat * 4)) = some (.int .i64 ((rd_T23 l0_0 (rd t261 0)).f0)) ∧ w'.cell? ⟨(ad257.add (((rd t261 0)).toNat * 4)).block, (ad257.add (((rd t261 0)).toNat * 4)).off + 1, none⟩ = some (.int .i64 ((rd_T23 l0_0 (rd t261 0)).f1)) ∧ w'.cell? ⟨(ad257.add (((rd t261 0)).toNat * 4)).block, (ad257.add (((rd t261 0)).toNat * 4)).off + 2, none⟩ = some (.int .i64 ((rd_T23 l0_0 (rd t261 0)).f2)) ∧ w'.cell? ⟨(ad257.add (((rd t261 0)).toNat * 4)).block, (ad257.add (((rd t261 0)).toNat * 4)).off + 3, none⟩ = some (.int .i64 ((rd_T23 l0_0 (rd t261 0)).f3))) (ds := []) #[false, false, false, false, false, false, false, false, false] (by kernel_rfl) rfl rfl ⟨(blk_cell BK247.out 0).trans rfl, (blk_cell BK247.out 1).trans rfl, hx264_0, ((HB.out.cell (World.block_lt_of_cell? w _ hw265_0)).trans hw265_0), ((HB.out.cell (World.block_lt_of_cell? w _ hw265_1)).trans hw265_1), ((HB.out.cell (World.block_lt_of_cell? w _ hw265_2)).trans hw265_2), ((HB.out.cell (World.block_lt_of_cell? w _ hw265_3)).trans hw265_3)⟩ (fun hHeld => ?_); refine with_tabW meanderref09_ports.tab13 meanderref09_ports.bits13 (fun HT_ HW_ => ?_)
                   generalize w48.drew = w49 at HO_3 HO263 BK247 BK258 HB hx264_0 hx265_0 hx265_1 hx265_2 hx265_3 hHeld ⊢
                   refine pure_ (i := 0) (N := some 69) (v := ?_) (a' := ?_) #[true, false, false, false, false, false, false, false, false] rfl rfl (any_of HT_.out (by kernel_rfl)) (fun _ _ _ h => h) (Or.inl ⟨by rfl, ?_⟩) ?_ ?_
                   rotate_left
                   ·intro w'
                    go_simp
                    with_reducible rfl
                   rotate_left
                   ·simp only [Act.put, List.setIfInBounds_toArray, List.set_cons_zero, List.set_cons_succ, i64_w, i32_w]
                    rfl
                   refine pure_ (i := 2) (N := some 71) (v := ?_) (a' := ?_) #[true, false, true, false, false, false, false, false, false] rfl rfl (any_of HT_.out (by kernel_rfl)) (fun _ _ _ h => h) (Or.inl ⟨by rfl, ?_⟩) ?_ ?_
                   rotate_left
                   ·intro w'
                    go_simp
                    with_reducible rfl
                   rotate_left
                   ·simp only [Act.put, List.setIfInBounds_toArray, List.set_cons_zero, List.set_cons_succ, i64_w, i32_w]
                    rfl
                   refine pure_ (i := 3) (N := some 72) (v := ?_) (a' := ?_) #[true, false, true, true, false, false, false, false, false] rfl rfl (any_of HT_.out (by kernel_rfl)) (fun _ _ _ h => h) (Or.inl ⟨by rfl, ?_⟩) ?_ ?_
                   rotate_left
                   ·intro w'
                    go_simp
                    with_reducible rfl
                   rotate_left
                   ·simp only [Act.put, List.setIfInBounds_toArray, List.set_cons_zero, List.set_cons_succ, i64_w, i32_w]
                    rfl
                   refine take_ (i := 1) (N := some 70) (v := ?_) (a' := ?_) #[true, true, true, true, false, false, false, false, false] rfl rfl (take_ofW HT_.out HW_.out (by kernel_rfl)) (fun _ _ _ h => h) (Or.inl ⟨by rfl, ?_⟩) hHeld ?_ ?_
                   rotate_left
                   ·rintro w' ⟨s0, s1, s2, s3, s4, s5, s6⟩
                    go_simp
                    with_reducible rfl
                   rotate_left
                   ·simp only [Act.put, List.setIfInBounds_toArray, List.set_cons_zero, List.set_cons_succ, i64_w, i32_w]
                    rfl
                   refine take_ (i := 4) (N := some 73) (v := ?_) (a' := ?_) #[true, true, true, true, true, false, false, false, false] rfl rfl (take_ofW HT_.out HW_.out (by kernel_rfl)) (fun _ _ _ h => h) (Or.inl ⟨by rfl, ?_⟩) hHeld ?_ ?_
                   rotate_left
                   ·rintro w' ⟨s0, s1, s2, s3, s4, s5, s6⟩
                    go_simp
                    with_reducible rfl
                   rotate_left
                   ·simp only [Act.put, List.setIfInBounds_toArray, List.set_cons_zero, List.set_cons_succ, i64_w, i32_w]
                    rfl
                   refine pure_ (i := 5) (N := some 74) (v := ?_) (a' := ?_) #[true, true, true, true, true, true, false, false, false] rfl rfl (any_of HT_.out (by kernel_rfl)) (fun _ _ _ h => h) (Or.inl ⟨by rfl, ?_⟩) ?_ ?_
                   rotate_left
                   ·intro w'
                    go_simp
                    with_reducible rfl
                   rotate_left
                   ·simp only [Act.put, List.setIfInBounds_toArray, List.set_cons_zero, List.set_cons_succ, i64_w, i32_w]
                    rfl
                   refine pure_ (i := 6) (N := some 75) (v := ?_) (a' := ?_) #[true, true, true, true, true, true, true, false, false] rfl rfl (any_of HT_.out (by kernel_rfl)) (fun _ _ _ h => h) (Or.inl ⟨by rfl, ?_⟩) ?_ ?_
                   rotate_left
                   ·intro w'
                    go_simp
                    with_reducible rfl
                   rotate_left
                   ·simp only [Act.put, List.setIfInBounds_toArray, List.set_cons_zero, List.set_cons_succ, i64_w, i32_w]
                    rfl
                   refine take_ (i := 7) (N := some 76) (v := ?_) (a' := ?_) #[true, true, true, true, true, true, true, true, false] rfl rfl (take_ofW HT_.out HW_.out (by kernel_rfl)) (fun _ _ _ h => h) (Or.inl ⟨by rfl, ?_⟩) hHeld ?_ ?_
                   rotate_left
                   ·rintro w' ⟨s0, s1, s2, s3, s4, s5, s6⟩
                    go_simp
                    with_reducible rfl
                   rotate_left
                   ·simp only [Act.put, List.setIfInBounds_toArray, List.set_cons_zero, List.set_cons_succ, i64_w, i32_w]
                    rfl
                   refine pure_ (i := 8) (N := some 77) (v := ?_) (a' := ?_) #[true, true, true, true, true, true, true, true, true] rfl rfl (any_of HT_.out (by kernel_rfl)) (fun _ _ _ h => h) (Or.inl ⟨by rfl, ?_⟩) ?_ ?_
                   rotate_left
                   ·intro w'
                    go_simp
                    with_reducible rfl
                   rotate_left
                   ·simp only [Act.put, List.setIfInBounds_toArray, List.set_cons_zero, List.set_cons_succ, i64_w, i32_w]
                    rfl
                   refine done_ (done_of HT_.out (by kernel_rfl)) ?_
                   try go_wp2
                   go_roundg kj25
                   case measure => have := HK1.out; have := HK2.out; have := HJ25.out; omega
                   case rel => exact ⟨(wrap64 (x5_2 + 1)), (by first | rfl | (simp; done) | (simp [*]; done)), H', ⟨by have := HK1.out; have := HK2.out; have := HJ25.out; omega⟩, ⟨by (with_reducible repeat (first | apply Kd.R_alloc | apply Kd.R_drewN | apply Kd.R_drew)); exact HO_3.out⟩, ⟨by (with_reducible repeat (first | refine blk_drewN ?_ _ | refine blk_drew ?_ | refine blk_alloc ?_ _)); exact BK247.out⟩, ⟨by repeat (first | (with_reducible first | exact HB.out | apply below_alloc | apply pw_below_drewN | apply below_drew1 | refine below_set ?_ GE247.out | refine below_set ?_ GE258.out) | exact HB.out)⟩⟩
                  ·rw [if_neg c46] at H
                   have c46b0 : (((rd_T23 l0_0 (rd t261 0)).f0) == 5) = false := beq_eq_false_iff_ne.mpr c46
                   have c46b1 : (((rd_T23 l0_0 (rd t261 0)).f0) != 5) = true := bne_iff_ne.mpr c46
                   obtain rfl := Option.some.inj H
                   try go_wp2
                   have n0_ := Aside0.mk (Kd.R_drew HO_3.out)
                   have n1_ := Aside0.mk (blk_drew BK247.out)
                   have n2_ := Aside0.mk (blk_drew BK258.out)
                   have n3_ := Aside0.mk (below_drew1 HB.out)
                   clear HO_3
                   clear BK247
                   clear BK258
                   clear HB
                   have HO_3 := n0_
                   have BK247 := n1_
                   have BK258 := n2_
                   have HB := n3_
                   clear n0_ n1_ n2_ n3_
                   have p260 : 0 ≤ (x5_2 : Int) := of_decide_eq_true (by first | (with_reducible assumption) | assumption)
                   have q260 : x5_2 < (t248.length : Int) := of_decide_eq_true (by first | (with_reducible assumption) | assumption)
                   obtain ⟨ad260, e260, hx260_0, hx260_1⟩ := at_T47 (Kd.R_reads' HO_3.out).2.2 x5_2 p260 q260
                   obtain rfl : ad256 = ad260 := (by injection e260)
                   replace p260 := eq_true p260
                   replace q260 := eq_true q260
                   refine start_ (n := 7) (S := fun w' => w'.cell? ⟨gb247, 0, none⟩ = some (.slice (some ad257) l0_0.length c0_0) ∧ w'.cell? ⟨gb247, 1, none⟩ = some (.slice A0_1 l0_1.length c0_1) ∧ w'.cell? (ad256.add ((x5_2).toNat * 2)) = some (.int .i64 ((rd_T47 t248 x5_2).f0)) ∧ w'.cell? ⟨(ad256.add ((x5_2).toNat * 2)).block, (ad256.add ((x5_2).toNat * 2)).off + 1, none⟩ = some (.int .i64 ((rd_T47 t248 x5_2).f1))) (ds := []) #[false, false, false, false, false, false, false] (by kernel_rfl) rfl rfl ⟨(blk_cell BK247.out 0).trans rfl, (blk_cell BK247.out 1).trans rfl, hx260_0, hx260_1⟩ (fun hHeld => ?_)
                   generalize wc.drew = w51 at HO_3 BK247 BK258 HB hx260_0 hx260_1 hHeld ⊢
                   refine pure_ (i := 1) (N := some 64) (v := ?_) (a' := ?_) #[false, true, false, false, false, false, false] rfl rfl (by kernel_rfl) (fun _ _ _ h => h) (Or.inl ⟨by rfl, ?_⟩) ?_ ?_
                   rotate_left
                   ·intro w'
                    go_simp
                    with_reducible rfl
                   rotate_left
                   ·simp only [Act.put, List.setIfInBounds_toArray, List.set_cons_zero, List.set_cons_succ, i64_w, i32_w]
                    rfl
                   refine pure_ (i := 2) (N := some 65) (v := ?_) (a' := ?_) #[false, true, true, false, false, false, false] rfl rfl (by kernel_rfl) (fun _ _ _ h => h) (Or.inl ⟨by rfl, ?_⟩) ?_ ?_
                   rotate_left
                   ·intro w'
                    go_simp
                    with_reducible rfl
                   rotate_left
                   ·simp only [Act.put, List.setIfInBounds_toArray, List.set_cons_zero, List.set_cons_succ, i64_w, i32_w]
                    rfl
                   refine pure_ (i := 3) (N := some 66) (v := ?_) (a' := ?_) #[false, true, true, true, false, false, false] rfl rfl (by kernel_rfl) (fun _ _ _ h => h) (Or.inl ⟨by rfl, ?_⟩) ?_ ?_
                   rotate_left
                   ·intro w'
                    go_simp
                    with_reducible rfl
                   rotate_left
                   ·simp only [Act.put, List.setIfInBounds_toArray, List.set_cons_zero, List.set_cons_succ, i64_w, i32_w]
                    rfl
                   refine take_ (i := 0) (N := some 63) (v := ?_) (a' := ?_) #[true, true, true, true, false, false, false] rfl rfl (by kernel_rfl) (fun _ _ _ h => h) (Or.inl ⟨by rfl, ?_⟩) hHeld ?_ ?_
                   rotate_left
                   ·rintro w' ⟨s0, s1, s2, s3⟩
                    go_simp
                    with_reducible rfl
                   rotate_left
                   ·simp only [Act.put, List.setIfInBounds_toArray, List.set_cons_zero, List.set_cons_succ, i64_w, i32_w]
                    rfl
                   refine take_ (i := 4) (N := some 67) (v := ?_) (a' := ?_) #[true, true, true, true, true, false, false] rfl rfl (by kernel_rfl) (fun _ _ _ h => h) (Or.inl ⟨by rfl, ?_⟩) hHeld ?_ ?_
                   rotate_left
                   ·rintro w' ⟨s0, s1, s2, s3⟩
                    go_simp
                    with_reducible rfl
                   rotate_left
                   ·simp only [Act.put, List.setIfInBounds_toArray, List.set_cons_zero, List.set_cons_succ, i64_w, i32_w]
                    rfl
                   refine one_ (i := 5) (N := some 68) #[true, true, true, true, true, true, false] rfl rfl (by kernel_rfl) (by decide) (fun K hK => ?_)
                   refine goes_ Try.func64 (by kernel_rfl) rfl #[.agg #[.slice (some ad257) l0_0.length c0_0, .slice A0_1 l0_1.length c0_1], .agg #[.int .i64 ((rd_T47 t248 x5_2).f0), .int .i64 ((rd_T47 t248 x5_2).f1)]] (by rfl) rfl rfl (by (try simp only [List.map_toArray, List.map_cons, List.map_nil]); first | done | rfl | (simp only [List.length_drop, List.length_take]; rfl)) ?_
                   with_reducible refine (meanderref08_Prev.calls kj25 _ _ l0_0 _ _ l0_1 ((rd_T47 t248 x5_2).f0) ((rd_T47 t248 x5_2).f1) t261 _ ?side1 ?side2 ?side3 ?side4 A42.out).mono ?_
                   (case side1 => repeat (first | exact (Kd.C_below HR0_0.out HB.out) | (with_reducible refine Kd.C_alloc ?_ _) | (with_reducible refine Kd.C_drewN ?_ _) | (with_reducible refine Kd.C_drew ?_)))
                   (case side2 => exact HC0_0.out)
                   (case side3 => repeat (first | exact (Kd.C_below HR0_1.out HB.out) | (with_reducible refine Kd.C_alloc ?_ _) | (with_reducible refine Kd.C_drewN ?_ _) | (with_reducible refine Kd.C_drew ?_)))
                   (case side4 => exact HC0_1.out)
                   rintro e w52 ⟨v262, rfl, ho0, hb⟩
                   have HS2_ := (hb.cell (World.block_lt_of_cell? _ _ (hHeld.2.2.1))).trans (hHeld.2.2.1)
                   have HS3_ := (hb.cell (World.block_lt_of_cell? _ _ (hHeld.2.2.2))).trans (hHeld.2.2.2)
                   refine ⟨_, rfl, ?_⟩
                   have n0_ := Aside0.mk (Kd.R_below (by (with_reducible repeat (first | apply Kd.R_alloc | apply Kd.R_drewN | apply Kd.R_drew)); exact HO_3.out) hb)
                   have n1_ := Aside0.mk (Kd.R_lower ho0 (below_size (by repeat (first | (with_reducible first | exact HB.out | apply below_alloc | apply pw_below_drewN | apply below_drew1 | refine below_set ?_ GE247.out | refine below_set ?_ GE258.out) | exact HB.out))))
                   have n2_ := Aside0.mk (blk_below (g := gb247) (o := .cells #[.slice (some ad257) l0_0.length c0_0, .slice A0_1 l0_1.length c0_1] 29 (0, 0)) (by (with_reducible repeat (first | refine blk_drewN ?_ _ | refine blk_drew ?_ | refine blk_alloc ?_ _)); exact BK247.out) hb)
                   have n3_ := Aside0.mk (blk_below (g := gb258) (o := .cells #[.int .i64 ((rd_T23 l0_0 ((rd_T47 t248 x5_2).f0)).f0), .int .i64 ((rd_T23 l0_0 ((rd_T47 t248 x5_2).f0)).f1), .int .i64 ((rd_T23 l0_0 ((rd_T47 t248 x5_2).f0)).f2), .int .i64 ((rd_T23 l0_0 ((rd_T47 t248 x5_2).f0)).f3)] 23 (0, 0)) (by (with_reducible repeat (first | refine blk_drewN ?_ _ | refine blk_drew ?_ | refine blk_alloc ?_ _)); exact BK258.out) hb)
                   have n4_ := Aside0.mk (below_step (by repeat (first | (with_reducible first | exact HB.out | apply below_alloc | apply pw_below_drewN | apply below_drew1 | refine below_set ?_ GE247.out | refine below_set ?_ GE258.out) | exact HB.out)) hb)
                   clear HO_3
                   clear BK247
                   clear BK258
                   clear HB
                   have HO_3 := n0_
                   have HO263 := n1_
                   have BK247 := n2_
                   have BK258 := n3_
                   have HB := n4_
                   clear n0_ n1_ n2_ n3_ n4_
                   (try clear hb)
                   (try clear hb2)
                   (try clear hk)
                   (try clear hi)
                   (try clear ho0)
                   refine hK.out _ _ ⟨(blk_cell BK247.out 0).trans rfl, (blk_cell BK247.out 1).trans rfl, HS2_, HS3_⟩ (fun hHeld => ?_)
                   clear hK K
                   refine norm_ (a' := ?_) ?_ ?_
                   rotate_left
                   ·show Act.put _ (some 68) _ = _
                    simp only [Act.put, List.setIfInBounds_toArray, List.set_cons_zero, List.set_cons_succ, i64_w, i32_w]
                    rfl
                   refine pure_ (i := 6) (N := some 7) (v := ?_) (a' := ?_) #[true, true, true, true, true, true, true] rfl rfl (by kernel_rfl) (fun _ _ _ h => h) (Or.inl ⟨by rfl, ?_⟩) ?_ ?_
                   rotate_left
                   ·intro w'
                    go_simp
                    with_reducible rfl
                   rotate_left
                   ·simp only [Act.put, List.setIfInBounds_toArray, List.set_cons_zero, List.set_cons_succ, i64_w, i32_w]
                    rfl
                   refine done_ (by kernel_rfl) ?_
                   try go_wp2
                   have n0_ := Aside0.mk (Kd.R_drew HO_3.out)
                   have n1_ := Aside0.mk (Kd.R_drew HO263.out)
                   have n2_ := Aside0.mk (blk_drew BK247.out)
                   have n3_ := Aside0.mk (blk_drew BK258.out)
                   have n4_ := Aside0.mk (below_drew1 HB.out)
                   clear HO_3
                   clear HO263
                   clear BK247
                   clear BK258
                   clear HB
                   have HO_3 := n0_
                   have HO263 := n1_
                   have BK247 := n2_
                   have BK258 := n3_
                   have HB := n4_
                   clear n0_ n1_ n2_ n3_ n4_
                   obtain ⟨Ao54, co54, eo54⟩ := Kd.R_slice HO263.out
                   (first | subst eo54 | (injection eo54 with f1_ f2_ f3_; have f4_ := f1_.symm; have f5_ := f3_.symm; clear f1_ f2_ f3_; subst f4_; subst f5_))
                   have p264 : 0 ≤ (0 : Int) := (by omega)
                   have q264 : 0 < (t261.length : Int) := of_decide_eq_true (by first | (with_reducible assumption) | assumption)
                   obtain ⟨ad264, e264, hx264_0⟩ := Kd.at_int (Kd.R_reads' HO263.out).2.2 0 p264 q264
                   cases e264
                   have qi264 : (0 < t261.length) = True := eq_true (by omega)
                   (try rw [show ((0 : Int)).toNat = 0 from rfl] at hx264_0)
                   (try rw [Addr.add_zero'] at hx264_0)
                   replace p264 := eq_true p264
                   replace q264 := eq_true q264
                   have p265 : 0 ≤ ((rd t261 0) : Int) := of_decide_eq_true (by first | (with_reducible assumption) | assumption)
                   have q265 : (rd t261 0) < (l0_0.length : Int) := of_decide_eq_true (by first | (with_reducible assumption) | assumption)
                   obtain ⟨ad265, e265, hx265_0, hx265_1, hx265_2, hx265_3⟩ := at_T23 HR0_0.out (rd t261 0) p265 q265
                   have hw265_3 := hx265_3
                   have hw265_2 := hx265_2
                   have hw265_1 := hx265_1
                   have hw265_0 := hx265_0
                   obtain rfl : ad257 = ad265 := (by injection e265)
                   replace hx265_0 := (HB.out.cell (World.block_lt_of_cell? w _ hx265_0)).trans hx265_0
                   replace hx265_1 := (HB.out.cell (World.block_lt_of_cell? w _ hx265_1)).trans hx265_1
                   replace hx265_2 := (HB.out.cell (World.block_lt_of_cell? w _ hx265_2)).trans hx265_2
                   replace hx265_3 := (HB.out.cell (World.block_lt_of_cell? w _ hx265_3)).trans hx265_3
                   replace p265 := eq_true p265
                   replace q265 := eq_true q265
                   refine start_ (n := 9) (S := fun w' => w'.cell? ⟨gb247, 0, none⟩ = some (.slice (some ad257) l0_0.length c0_0) ∧ w'.cell? ⟨gb247, 1, none⟩ = some (.slice A0_1 l0_1.length c0_1) ∧ w'.cell? ad264 = some (.int .i64 (rd t261 0)) ∧ w'.cell? (ad257.add (((rd t261 0)).toNat * 4)) = some (.int .i64 ((rd_T23 l0_0 (rd t261 0)).f0)) ∧ w'.cell? ⟨(ad257.add (((rd t261 0)).toNat * 4)).block, (ad257.add (((rd t261 0)).toNat * 4)).off + 1, none⟩ = some (.int .i64 ((rd_T23 l0_0 (rd t261 0)).f1)) ∧ w'.cell? ⟨(ad257.add (((rd t261 0)).toNat * 4)).block, (ad257.add (((rd t261 0)).toNat * 4)).off + 2, none⟩ = some (.int .i64 ((rd_T23 l0_0 (rd t261 0)).f2)) ∧ w'.cell? ⟨(ad257.add (((rd t261 0)).toNat * 4)).block, (ad257.add (((rd t261 0)).toNat * 4)).off + 3, none⟩ = some (.int .i64 ((rd_T23 l0_0 (rd t261 0)).f3))) (ds := []) #[false, false, false, false, false, false, false, false, false] (by kernel_rfl) rfl rfl ⟨(blk_cell BK247.out 0).trans rfl, (blk_cell BK247.out 1).trans rfl, hx264_0, ((HB.out.cell (World.block_lt_of_cell? w _ hw265_0)).trans hw265_0), ((HB.out.cell (World.block_lt_of_cell? w _ hw265_1)).trans hw265_1), ((HB.out.cell (World.block_lt_of_cell? w _ hw265_2)).trans hw265_2), ((HB.out.cell (World.block_lt_of_cell? w _ hw265_3)).trans hw265_3)⟩ (fun hHeld => ?_); refine with_tabW meanderref09_ports.tab13 meanderref09_ports.bits13 (fun HT_ HW_ => ?_)
                   generalize w52.drew = w53 at HO_3 HO263 BK247 BK258 HB hx264_0 hx265_0 hx265_1 hx265_2 hx265_3 hHeld ⊢
                   refine pure_ (i := 0) (N := some 69) (v := ?_) (a' := ?_) #[true, false, false, false, false, false, false, false, false] rfl rfl (any_of HT_.out (by kernel_rfl)) (fun _ _ _ h => h) (Or.inl ⟨by rfl, ?_⟩) ?_ ?_
                   rotate_left
                   ·intro w'
                    go_simp
                    with_reducible rfl
                   rotate_left
                   ·simp only [Act.put, List.setIfInBounds_toArray, List.set_cons_zero, List.set_cons_succ, i64_w, i32_w]
                    rfl
                   refine pure_ (i := 2) (N := some 71) (v := ?_) (a' := ?_) #[true, false, true, false, false, false, false, false, false] rfl rfl (any_of HT_.out (by kernel_rfl)) (fun _ _ _ h => h) (Or.inl ⟨by rfl, ?_⟩) ?_ ?_
                   rotate_left
                   ·intro w'
                    go_simp
                    with_reducible rfl
                   rotate_left
                   ·simp only [Act.put, List.setIfInBounds_toArray, List.set_cons_zero, List.set_cons_succ, i64_w, i32_w]
                    rfl
                   refine pure_ (i := 3) (N := some 72) (v := ?_) (a' := ?_) #[true, false, true, true, false, false, false, false, false] rfl rfl (any_of HT_.out (by kernel_rfl)) (fun _ _ _ h => h) (Or.inl ⟨by rfl, ?_⟩) ?_ ?_
                   rotate_left
                   ·intro w'
                    go_simp
                    with_reducible rfl
                   rotate_left
                   ·simp only [Act.put, List.setIfInBounds_toArray, List.set_cons_zero, List.set_cons_succ, i64_w, i32_w]
                    rfl
                   refine take_ (i := 1) (N := some 70) (v := ?_) (a' := ?_) #[true, true, true, true, false, false, false, false, false] rfl rfl (take_ofW HT_.out HW_.out (by kernel_rfl)) (fun _ _ _ h => h) (Or.inl ⟨by rfl, ?_⟩) hHeld ?_ ?_
                   rotate_left
                   ·rintro w' ⟨s0, s1, s2, s3, s4, s5, s6⟩
                    go_simp
                    with_reducible rfl
                   rotate_left
                   ·simp only [Act.put, List.setIfInBounds_toArray, List.set_cons_zero, List.set_cons_succ, i64_w, i32_w]
                    rfl
                   refine take_ (i := 4) (N := some 73) (v := ?_) (a' := ?_) #[true, true, true, true, true, false, false, false, false] rfl rfl (take_ofW HT_.out HW_.out (by kernel_rfl)) (fun _ _ _ h => h) (Or.inl ⟨by rfl, ?_⟩) hHeld ?_ ?_
                   rotate_left
                   ·rintro w' ⟨s0, s1, s2, s3, s4, s5, s6⟩
                    go_simp
                    with_reducible rfl
                   rotate_left
                   ·simp only [Act.put, List.setIfInBounds_toArray, List.set_cons_zero, List.set_cons_succ, i64_w, i32_w]
                    rfl
                   refine pure_ (i := 5) (N := some 74) (v := ?_) (a' := ?_) #[true, true, true, true, true, true, false, false, false] rfl rfl (any_of HT_.out (by kernel_rfl)) (fun _ _ _ h => h) (Or.inl ⟨by rfl, ?_⟩) ?_ ?_
                   rotate_left
                   ·intro w'
                    go_simp
                    with_reducible rfl
                   rotate_left
                   ·simp only [Act.put, List.setIfInBounds_toArray, List.set_cons_zero, List.set_cons_succ, i64_w, i32_w]
                    rfl
                   refine pure_ (i := 6) (N := some 75) (v := ?_) (a' := ?_) #[true, true, true, true, true, true, true, false, false] rfl rfl (any_of HT_.out (by kernel_rfl)) (fun _ _ _ h => h) (Or.inl ⟨by rfl, ?_⟩) ?_ ?_
                   rotate_left
                   ·intro w'
                    go_simp
                    with_reducible rfl
                   rotate_left
                   ·simp only [Act.put, List.setIfInBounds_toArray, List.set_cons_zero, List.set_cons_succ, i64_w, i32_w]
                    rfl
                   refine take_ (i := 7) (N := some 76) (v := ?_) (a' := ?_) #[true, true, true, true, true, true, true, true, false] rfl rfl (take_ofW HT_.out HW_.out (by kernel_rfl)) (fun _ _ _ h => h) (Or.inl ⟨by rfl, ?_⟩) hHeld ?_ ?_
                   rotate_left
                   ·rintro w' ⟨s0, s1, s2, s3, s4, s5, s6⟩
                    go_simp
                    with_reducible rfl
                   rotate_left
                   ·simp only [Act.put, List.setIfInBounds_toArray, List.set_cons_zero, List.set_cons_succ, i64_w, i32_w]
                    rfl
                   refine pure_ (i := 8) (N := some 77) (v := ?_) (a' := ?_) #[true, true, true, true, true, true, true, true, true] rfl rfl (any_of HT_.out (by kernel_rfl)) (fun _ _ _ h => h) (Or.inl ⟨by rfl, ?_⟩) ?_ ?_
                   rotate_left
                   ·intro w'
                    go_simp
                    with_reducible rfl
                   rotate_left
                   ·simp only [Act.put, List.setIfInBounds_toArray, List.set_cons_zero, List.set_cons_succ, i64_w, i32_w]
                    rfl
                   refine done_ (done_of HT_.out (by kernel_rfl)) ?_
                   try go_wp2
                   go_ret
                   exact ⟨by first | rfl | (simp [errW_none, errW_some] <;> rfl) | (simp [*, errW_none, errW_some] <;> rfl), by repeat (first | (with_reducible first | exact HB.out | apply below_alloc | apply pw_below_drewN | apply below_drew1 | refine below_set ?_ GE247.out | refine below_set ?_ GE258.out) | exact HB.out)⟩
                 ·rw [if_neg c45] at H
                  exact absurd H (by simp)
                ·rw [if_neg c44] at H
                 exact absurd H (by simp)
               ·rw [if_neg c43] at H
                exact absurd H (by simp)
              ·rw [if_neg c41] at H
               exact absurd H (by simp)
             ·rw [if_neg c40] at H
              exact absurd H (by simp)
         ·rw [if_neg c25] at H
          exact absurd H (by simp)
        ·rw [if_neg c24] at H
         exact absurd H (by simp)
       ·rw [if_neg c23] at H
        exact absurd H (by simp)
      ·rw [if_neg c22] at H
       have c22b0 : decide (x5_2 < (t248.length : Int)) = false := decide_eq_false c22
       clear c22
       obtain rfl := Option.some.inj H
       go_wp2
       go_ret
       exact ⟨by first | rfl | (simp [errW_none, errW_some] <;> rfl) | (simp [*, errW_none, errW_some] <;> rfl), by repeat (first | (with_reducible first | exact HB.out | apply below_alloc | apply pw_below_drewN | apply below_drew1 | refine below_set ?_ GE247.out) | exact HB.out)⟩

end Go.Proofs.Ytjlnjlnecipllaa.PAll
