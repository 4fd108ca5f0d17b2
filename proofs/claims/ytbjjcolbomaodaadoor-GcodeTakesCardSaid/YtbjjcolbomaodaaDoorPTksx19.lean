-- Laid by hprint.py of this repo: the kit's printer, and contracts by hand beside it. Not trusted: Lean checks it.
import Derived.Test.YtbjjcolbomaodaaDoorWZ
import Derived.Test.YtbjjcolbomaodaaDoorWY
import Derived.Test.YtbjjcolbomaodaaDoorPTksx0
import Derived.Test.YtbjjcolbomaodaaDoorPTksx16
import Derived.Test.YtbjjcolbomaodaaDoorPTksx18
namespace Go.Proofs.YtbjjcolbomaodaaDoor.PTks
open Go.RowKit Go.Proofs.YtbjjcolbomaodaaDoorW.PrintWords Go.Proofs.YtbjjcolbomaodaaDoorW.PrintLast Go.Proofs.YtbjjcolbomaodaaDoorW.PrintMore
attribute [local go_sem] max2_int min2_int max_two min_two max_three min_three max_four min_four   -- for this text's walks alone
set_option linter.unusedVariables false
set_option linter.unusedSimpArgs false

/-! ### meanderref09_ports: function 29 -/
mutual
def meanderref09_ports.l0 : Nat → List (S82) → Int → List (S40) → List (S42) → Option (Int)
 | 0, _, _, _, _ => none
 | k + 1, x3, x4, x254000, x254001 => if x4 < (x3.length : Int) then (if 0 ≤ x4 then (if ((rd_T82 x3 x4).f1) = (-1) then (meanderref09_ports.l0 k x3 (wrap64 (x4 + 1)) x254000 x254001) else ((meanderref08_Prev.f k x254000 x254001 ((rd_T82 x3 x4).f0) ((rd_T82 x3 x4).f1)).bind fun t259 => (if (t259.length : Int) = 1 then (meanderref09_ports.l0 k x3 (wrap64 (x4 + 1)) x254000 x254001) else (some 13)))) else (none)) else (meanderref09_ports.l1 k x3 0 x254000 x254001)
def meanderref09_ports.l1 : Nat → List (S82) → Int → List (S40) → List (S42) → Option (Int)
 | 0, _, _, _, _ => none
 | k + 1, x3, x5, x254000, x254001 => if x5 < (x3.length : Int) then (if 0 ≤ x5 then (if 0 ≤ ((rd_T82 x3 x5).f0) then (if ((rd_T82 x3 x5).f0) < (x254000.length : Int) then (if ((rd_T82 x3 x5).f1) = (-1) then (meanderref09_ports.j2 k x3 x5 true x254000 x254001) else (if ((rd_T40 x254000 ((rd_T82 x3 x5).f0)).f0) = 6 then (meanderref09_ports.j2 k x3 x5 false x254000 x254001) else (meanderref09_ports.j2 k x3 x5 (((rd_T40 x254000 ((rd_T82 x3 x5).f0)).f0) != 7) x254000 x254001))) else (none)) else (none)) else (none)) else (some 0)
def meanderref09_ports.j2 : Nat → List (S82) → Int → Bool → List (S40) → List (S42) → Option (Int)
 | 0, _, _, _, _, _ => none
 | k + 1, x3, x5, x62, x254000, x254001 => if x62 = true then (meanderref09_ports.l1 k x3 (wrap64 (x5 + 1)) x254000 x254001) else (if 0 ≤ x5 then (if x5 < (x3.length : Int) then ((meanderref08_Prev.f k x254000 x254001 ((rd_T82 x3 x5).f0) ((rd_T82 x3 x5).f1)).bind fun t267 => (if 0 < (t267.length : Int) then (if 0 ≤ (rd t267 0) then (if (rd t267 0) < (x254000.length : Int) then (if ((rd_T40 x254000 (rd t267 0)).f0) = 5 then (meanderref09_ports.l1 k x3 (wrap64 (x5 + 1)) x254000 x254001) else (some 15)) else (none)) else (none)) else (none))) else (none)) else (none))
end
def meanderref09_ports.f (k : Nat) (l0_0 : List (S40)) (l0_1 : List (S42)) : Option (Int) := (meanderref08_Locs.f k l0_0 l0_1).bind fun t254 => (meanderref09_ports.l0 k t254 0 l0_0 l0_1)
theorem meanderref09_ports.mono_l : ∀ k, (∀ y0 y1 y2 y3, LeO (meanderref09_ports.l0 k y0 y1 y2 y3) (meanderref09_ports.l0 (k + 1) y0 y1 y2 y3)) ∧ (∀ y0 y1 y2 y3, LeO (meanderref09_ports.l1 k y0 y1 y2 y3) (meanderref09_ports.l1 (k + 1) y0 y1 y2 y3)) ∧ (∀ y0 y1 y2 y3 y4, LeO (meanderref09_ports.j2 k y0 y1 y2 y3 y4) (meanderref09_ports.j2 (k + 1) y0 y1 y2 y3 y4))
 | 0 => ⟨fun _ _ _ _ r h => by simp [meanderref09_ports.l0] at h, fun _ _ _ _ r h => by simp [meanderref09_ports.l1] at h, fun _ _ _ _ _ r h => by simp [meanderref09_ports.j2] at h⟩
 | k + 1 => by
  obtain ⟨ih0, ih1, ih2⟩ := meanderref09_ports.mono_l k
  refine ⟨?_, ?_, ?_⟩
  ·intro y0 y1 y2 y3
   unfold meanderref09_ports.l0
   repeat' first
   | (with_reducible exact ih0 _ _ _ _)
   | (with_reducible exact ih1 _ _ _ _)
   | (with_reducible exact ih2 _ _ _ _ _)
   | (with_reducible exact meanderref08_Locs.mono _ _ _)
   | (with_reducible exact meanderref08_Prev.mono _ _ _ _ _)
   | (with_reducible exact LeO.refl _)
   | (with_reducible exact LeO.none _)
   | (with_reducible refine LeO.ite ?_ ?_)
   | (with_reducible refine LeO.bind ?_ (fun _ => ?_))
   | exact ih0 _ _ _ _
   | exact ih1 _ _ _ _
   | exact ih2 _ _ _ _ _
   | exact meanderref08_Locs.mono _ _ _
   | exact meanderref08_Prev.mono _ _ _ _ _
   | exact LeO.none _
   | refine LeO.ite ?_ ?_
   | refine LeO.bind ?_ (fun _ => ?_)
  ·intro y0 y1 y2 y3
   unfold meanderref09_ports.l1
   repeat' first
   | (with_reducible exact ih0 _ _ _ _)
   | (with_reducible exact ih1 _ _ _ _)
   | (with_reducible exact ih2 _ _ _ _ _)
   | (with_reducible exact meanderref08_Locs.mono _ _ _)
   | (with_reducible exact meanderref08_Prev.mono _ _ _ _ _)
   | (with_reducible exact LeO.refl _)
   | (with_reducible exact LeO.none _)
   | (with_reducible refine LeO.ite ?_ ?_)
   | (with_reducible refine LeO.bind ?_ (fun _ => ?_))
   | exact ih0 _ _ _ _
   | exact ih1 _ _ _ _
   | exact ih2 _ _ _ _ _
   | exact meanderref08_Locs.mono _ _ _
   | exact meanderref08_Prev.mono _ _ _ _ _
   | exact LeO.none _
   | refine LeO.ite ?_ ?_
   | refine LeO.bind ?_ (fun _ => ?_)
  ·intro y0 y1 y2 y3 y4
   unfold meanderref09_ports.j2
   repeat' first
   | (with_reducible exact ih0 _ _ _ _)
   | (with_reducible exact ih1 _ _ _ _)
   | (with_reducible exact ih2 _ _ _ _ _)
   | (with_reducible exact meanderref08_Locs.mono _ _ _)
   | (with_reducible exact meanderref08_Prev.mono _ _ _ _ _)
   | (with_reducible exact LeO.refl _)
   | (with_reducible exact LeO.none _)
   | (with_reducible refine LeO.ite ?_ ?_)
   | (with_reducible refine LeO.bind ?_ (fun _ => ?_))
   | exact ih0 _ _ _ _
   | exact ih1 _ _ _ _
   | exact ih2 _ _ _ _ _
   | exact meanderref08_Locs.mono _ _ _
   | exact meanderref08_Prev.mono _ _ _ _ _
   | exact LeO.none _
   | refine LeO.ite ?_ ?_
   | refine LeO.bind ?_ (fun _ => ?_)
theorem meanderref09_ports.mono : ∀ a0 a1 k, LeO (meanderref09_ports.f k a0 a1) (meanderref09_ports.f (k + 1) a0 a1) := by
 intro a0 a1 k
 obtain ⟨ih0, ih1, ih2⟩ := meanderref09_ports.mono_l k
 unfold meanderref09_ports.f
 repeat' first
   | (with_reducible exact ih0 _ _ _ _)
   | (with_reducible exact ih1 _ _ _ _)
   | (with_reducible exact ih2 _ _ _ _ _)
   | (with_reducible exact meanderref08_Locs.mono _ _ _)
   | (with_reducible exact meanderref08_Prev.mono _ _ _ _ _)
   | (with_reducible exact LeO.refl _)
   | (with_reducible exact LeO.none _)
   | (with_reducible refine LeO.ite ?_ ?_)
   | (with_reducible refine LeO.bind ?_ (fun _ => ?_))
   | exact ih0 _ _ _ _
   | exact ih1 _ _ _ _
   | exact ih2 _ _ _ _ _
   | exact meanderref08_Locs.mono _ _ _
   | exact meanderref08_Prev.mono _ _ _ _ _
   | exact LeO.none _
   | refine LeO.ite ?_ ?_
   | refine LeO.bind ?_ (fun _ => ?_)
def meanderref09_ports.T5 : Bool × List (List Nat × List Nat) := (true, [([], []), ([], []), ([0, 1], [0, 1]), ([2], [2]), ([3], [3]), ([4], [4]), ([5], [5]), ([6], [6]), ([6], [6]), ([6], [6]), ([8, 9, 6], [6, 8, 9]), ([10, 6], [6, 10]), ([7, 11, 6, 6], [6, 7, 11]), ([12, 6], [6, 12]), ([13, 6], [6, 13]), ([6, 14], [6, 14])])
def meanderref09_ports.B5 : List Nat := [0, 0, 3, 7, 15, 31, 63, 127, 127, 127, 895, 1919, 4095, 8191, 16383, 32767]
theorem meanderref09_ports.tab5 : rtab .any (opsOf Tryd.f29 5) = meanderref09_ports.T5 := by kernel_rfl
theorem meanderref09_ports.bits5 : waitsOk meanderref09_ports.T5.2 meanderref09_ports.B5 = true := by kernel_rfl
def meanderref09_ports.T10 : Bool × List (List Nat × List Nat) := (true, [([], []), ([0], [0]), ([], []), ([], []), ([2, 3], [2, 3]), ([4], [4]), ([5], [5]), ([1, 6], [1, 6]), ([7], [7]), ([], []), ([9, 8, 0, 1, 2, 3, 4, 5, 6, 7, 8, 9], [8, 9])])
def meanderref09_ports.B10 : List Nat := [0, 1, 0, 0, 12, 28, 60, 127, 255, 0, 1023]
theorem meanderref09_ports.tab10 : rtab .any (opsOf Tryd.f29 10) = meanderref09_ports.T10 := by kernel_rfl
theorem meanderref09_ports.bits10 : waitsOk meanderref09_ports.T10.2 meanderref09_ports.B10 = true := by kernel_rfl
def meanderref09_ports.T13 : Bool × List (List Nat × List Nat) := (true, [([], []), ([0], [0]), ([], []), ([2], [2]), ([3], [3]), ([1, 4], [1, 4]), ([5], [5]), ([6], [6]), ([7], [7])])
def meanderref09_ports.B13 : List Nat := [0, 1, 0, 4, 12, 31, 63, 127, 255]
theorem meanderref09_ports.tab13 : rtab .any (opsOf Tryd.f29 13) = meanderref09_ports.T13 := by kernel_rfl
theorem meanderref09_ports.bits13 : waitsOk meanderref09_ports.T13.2 meanderref09_ports.B13 = true := by kernel_rfl
set_option maxHeartbeats 8000000 in
set_option maxRecDepth 100000 in
theorem meanderref09_ports.calls (k : Nat) (A0_0 : Option Addr) (c0_0 : Nat) (l0_0 : List (S40)) (A0_1 : Option Addr) (c0_1 : Nat) (l0_1 : List (S42)) (r : Int) (w : World) (hr0_0 : Kd.C k40 w A0_0 l0_0.length l0_0) (hc0_0 : l0_0.length ≤ c0_0) (hr0_1 : Kd.C k42 w A0_1 l0_1.length l0_1) (hc0_1 : l0_1.length ≤ c0_1) (h : meanderref09_ports.f k l0_0 l0_1 = some r) :
  Calls Tryd.prog 29 #[.agg #[.slice A0_0 l0_0.length c0_0, .slice A0_1 l0_1.length c0_1]] w fun e w' => e = .returned (.int .i64 r) ∧ Below w.heap.size w w' := by
 have hu27 := Tryd.underlying27
 have hu82 := Tryd.underlying82
 have hu40 := Tryd.underlying40
 have HR0_0 := ZM hr0_0
 have HC0_0 := ZM hc0_0
 clear hr0_0 hc0_0
 have HR0_1 := ZM hr0_1
 have HC0_1 := ZM hc0_1
 clear hr0_1 hc0_1
 have HB := ZM (Below.refl w.heap.size w)
 have H : ((meanderref08_Locs.f k l0_0 l0_1).bind fun t254 => (meanderref09_ports.l0 k t254 0 l0_0 l0_1)) = some r := h
 clear h
 replace H := Option.bind_eq_some_iff.mp H
 obtain ⟨t254, A20, H⟩ := H
 replace H : (meanderref09_ports.l0 k t254 0 l0_0 l0_1) = some r := H
 have A2 := ZM A20
 clear A20
 have H' := ZM H
 clear H
 go_enter Tryd.func29, Tryd.ntmps29
 go_wp2_with (first | ((with_reducible refine gate_dst (N := 1) rfl ?_); (try (refine gate_guard (by rfl) ?_; dsimp only)); refine ZBX 1 (cs := #[.slice A0_0 l0_0.length c0_0, .slice A0_1 l0_1.length c0_1]) (t := 27) ?_; intro gb253 hg w3 hbox hb; have n0_ := ZM (ZW (ZBB HB.out) hb); have n1_ := ZM (hbox); have n2_ := ZM (ZGE hg HB.out); have n3_ := ZM (ZGE hg HB.out); clear HB; have HB := n0_; have BK253 := n1_; have GW253 := n2_; have GE253 := n3_; clear n0_ n1_ n2_ n3_; clear hb hbox hg; obtain ⟨hcz4_0, hcz4_1, hfz4_0, hfz4_1⟩ := ZC2 BK253.out) | ((with_reducible refine gate_callee (f := 46) rfl ?_); refine goesL_ (some 9) rfl rfl Tryd.func46 (by kernel_rfl) rfl #[.agg #[.slice A0_0 l0_0.length c0_0, .slice A0_1 l0_1.length c0_1]] rfl ZH ?_; (with_reducible refine (meanderref08_Locs.calls k _ _ l0_0 _ _ l0_1 t254 _ ?side1 ?side2 ?side3 ?side4 A2.out).mono ?_); (case side1 => repeat (first | exact (Kd.C_below HR0_0.out HB.out) | (with_reducible refine Kd.C_alloc ?_ _) | (with_reducible refine Kd.C_drewN ?_ _) | (with_reducible refine Kd.C_drew ?_))); (case side2 => exact HC0_0.out); (case side3 => repeat (first | exact (Kd.C_below HR0_1.out HB.out) | (with_reducible refine Kd.C_alloc ?_ _) | (with_reducible refine Kd.C_drewN ?_ _) | (with_reducible refine Kd.C_drew ?_))); (case side4 => exact HC0_1.out); rintro e w5 ⟨v255, rfl, ho0, hb⟩; refine ⟨_, rfl, ?_⟩; have n0_ := ZM (Kd.R_lower ho0 (ZV (ZBB HB.out))); have n1_ := ZM (blk_below (ZBK BK253.out) hb); have n2_ := ZM (ZW (ZBB HB.out) hb); clear BK253; clear HB; have HO256 := n0_; have BK253 := n1_; have HB := n2_; clear n0_ n1_ n2_; (try clear hb); (try clear hb2); (try clear hk); (try clear hi); (try clear ho0)))
 go_loopg [4] k (fun kq v4 w' => ∃ (x4_1 : Int), v4 = .int .i64 x4_1 ∧ Aside0 (meanderref09_ports.l0 kq t254 x4_1 l0_0 l0_1 = some r) ∧ Aside0 (kq ≤ k) ∧ Aside0 (Kd.R k82 82 w' w.heap.size (fun _ => True) v255 t254) ∧ Aside0 (w'.heap[gb253]? = some (.cells #[(.slice A0_0 l0_0.length c0_0), (.slice A0_1 l0_1.length c0_1)] 27 (0, 0))) ∧ Aside0 (Below w.heap.size w w'))
 case atStart => exact ⟨(0), ZE, H', ⟨Nat.le_refl _⟩, ⟨ZRK HO256.out⟩, ⟨ZBK BK253.out⟩, ⟨ZBB HB.out⟩⟩
 case round =>
  clear H'
  try clear hcz4_0
  try clear hcz4_1
  try clear hfz4_0
  try clear hfz4_1
  obtain ⟨x4_1, rfl, HA, HK1, HO_3, BK253, HB⟩ := hrel
  cases gk with
  | zero => exact absurd HA.out (by simp [meanderref09_ports.l0])
  | succ k1 =>
   have H := HA.out
   clear HA
   simp only [meanderref09_ports.l0] at H
   by_cases c6 : x4_1 < (t254.length : Int)
   ·rw [if_pos c6] at H
    have c6b0 : decide (x4_1 < (t254.length : Int)) = true := decide_eq_true c6
    clear c6
    by_cases c7 : 0 ≤ x4_1
    case neg =>
     rw [if_neg c7] at H
     exact absurd H (by simp)
    rw [if_pos c7] at H
    have c7b0 : decide (0 ≤ x4_1) = true := decide_eq_true c7
    clear c7
    by_cases c8 : ((rd_T82 t254 x4_1).f1) = (-1)
    ·rw [if_pos c8] at H
     have c8b0 : (((rd_T82 t254 x4_1).f1) == (-1)) = true := beq_iff_eq.mpr c8
     have c8b1 : (((rd_T82 t254 x4_1).f1) != (-1)) = false := bne_eq_false_iff_eq.mpr c8
     clear c8
     have H' := ZM H
     clear H
     obtain ⟨Ao9, co9, eo9⟩ := Kd.R_slice HO_3.out
     subst eo9
     try go_wp2
     have n0_ := ZM (ZZ HO_3.out)
     have n1_ := ZM (ZS BK253.out)
     have n2_ := ZM (ZP HB.out)
     clear HO_3
     clear BK253
     clear HB
     have HO_3 := n0_
     have BK253 := n1_
     have HB := n2_
     clear n0_ n1_ n2_
     have p257 : 0 ≤ (x4_1 : Int) := ZOD
     have q257 : x4_1 < (t254.length : Int) := ZOD
     obtain ⟨ad257, e257, hx257_0, hx257_1⟩ := at_T82 (Kd.R_reads' HO_3.out).2.2 x4_1 p257 q257
     cases e257
     replace p257 := eq_true p257
     replace q257 := eq_true q257
     refine start_ (n := 16) (S := fun w' => w'.cell? (ad257.add ((x4_1).toNat * 2)) = some (.int .i64 ((rd_T82 t254 x4_1).f0)) ∧ w'.cell? ⟨(ad257.add ((x4_1).toNat * 2)).block, (ad257.add ((x4_1).toNat * 2)).off + 1, none⟩ = some (.int .i64 ((rd_T82 t254 x4_1).f1))) (ds := []) #[false, false, false, false, false, false, false, false, false, false, false, false, false, false, false, false] (by kernel_rfl) rfl rfl ⟨hx257_0, hx257_1⟩ (fun hHeld => ?_); refine with_tabW meanderref09_ports.tab5 meanderref09_ports.bits5 (fun HT_ HW_ => ?_)
     generalize wr.drew = w10 at HO_3 BK253 HB hx257_0 hx257_1 hHeld ⊢
     refine ZPU (ZB 16 1) HT_.out 0 16 ?_
     refine ZPU (ZB 16 3) HT_.out 1 17 ?_
     refine ZPU (ZB 16 7) HT_.out 2 18 ?_
     refine ZPU (ZB 16 15) HT_.out 3 19 ?_
     refine ZTU (ZB 16 31) HT_.out HW_.out hHeld 4 20 ?_
     refine ZPU (ZB 16 63) HT_.out 5 21 ?_
     refine ZPU (ZB 16 127) HT_.out 6 22 ?_
     refine ZPO (ZB 16 255) HT_.out 7 23 ?_
     refine ZPO (ZB 16 511) HT_.out 8 24 ?_
     refine ZPO (ZB 16 1023) HT_.out 9 25 ?_
     refine ZPO (ZB 16 2047) HT_.out 10 26 ?_
     refine ZPO (ZB 16 4095) HT_.out 11 27 ?_
     refine ZPO (ZB 16 8191) HT_.out 12 28 ?_
     refine ZPO (ZB 16 16383) HT_.out 13 29 ?_
     refine ZPO (ZB 16 32767) HT_.out 14 30 ?_
     refine ZPU (ZB 16 65535) HT_.out 15 31 ?_
     refine done_ (done_of HT_.out (by kernel_rfl)) ?_
     try go_wp2
     go_roundg k1
     case measure => have := HK1.out; omega
     case rel => exact ⟨(wrap64 (x4_1 + 1)), ZE, H', ⟨by have := HK1.out; omega⟩, ⟨ZRK HO_3.out⟩, ⟨ZBK BK253.out⟩, ⟨ZBB HB.out⟩⟩
    ·rw [if_neg c8] at H
     have c8b0 : (((rd_T82 t254 x4_1).f1) == (-1)) = false := beq_eq_false_iff_ne.mpr c8
     have c8b1 : (((rd_T82 t254 x4_1).f1) != (-1)) = true := bne_iff_ne.mpr c8
     replace H := Option.bind_eq_some_iff.mp H
     obtain ⟨t259, A110, H⟩ := H
     replace H : (if (t259.length : Int) = 1 then (meanderref09_ports.l0 k1 t254 (wrap64 (x4_1 + 1)) l0_0 l0_1) else (some 13)) = some r := H
     have A11 := ZM A110
     clear A110
     by_cases c12 : (t259.length : Int) = 1
     ·rw [if_pos c12] at H
      have c12b0 : ((t259.length : Int) == 1) = true := beq_iff_eq.mpr c12
      have c12b1 : ((t259.length : Int) != 1) = false := bne_eq_false_iff_eq.mpr c12
      clear c12
      have H' := ZM H
      clear H
      obtain ⟨Ao13, co13, eo13⟩ := Kd.R_slice HO_3.out
      subst eo13
      try go_wp2
      have n0_ := ZM (ZZ HO_3.out)
      have n1_ := ZM (ZS BK253.out)
      have n2_ := ZM (ZP HB.out)
      clear HO_3
      clear BK253
      clear HB
      have HO_3 := n0_
      have BK253 := n1_
      have HB := n2_
      clear n0_ n1_ n2_
      have p257 : 0 ≤ (x4_1 : Int) := ZOD
      have q257 : x4_1 < (t254.length : Int) := ZOD
      obtain ⟨ad257, e257, hx257_0, hx257_1⟩ := at_T82 (Kd.R_reads' HO_3.out).2.2 x4_1 p257 q257
      cases e257
      replace p257 := eq_true p257
      replace q257 := eq_true q257
      have p258 : 0 ≤ (x4_1 : Int) := ZOD
      have q258 : x4_1 < (t254.length : Int) := ZOD
      obtain ⟨ad258, e258, hx258_0, hx258_1⟩ := at_T82 (Kd.R_reads' HO_3.out).2.2 x4_1 p258 q258
      obtain rfl : ad257 = ad258 := (by injection e258)
      replace p258 := eq_true p258
      replace q258 := eq_true q258
      refine start_ (n := 16) (S := fun w' => w'.cell? ⟨gb253, 0, none⟩ = some (.slice A0_0 l0_0.length c0_0) ∧ w'.cell? ⟨gb253, 1, none⟩ = some (.slice A0_1 l0_1.length c0_1) ∧ w'.cell? (ad257.add ((x4_1).toNat * 2)) = some (.int .i64 ((rd_T82 t254 x4_1).f0)) ∧ w'.cell? ⟨(ad257.add ((x4_1).toNat * 2)).block, (ad257.add ((x4_1).toNat * 2)).off + 1, none⟩ = some (.int .i64 ((rd_T82 t254 x4_1).f1)) ∧ w'.cell? (ad257.add ((x4_1).toNat * 2)) = some (.int .i64 ((rd_T82 t254 x4_1).f0)) ∧ w'.cell? ⟨(ad257.add ((x4_1).toNat * 2)).block, (ad257.add ((x4_1).toNat * 2)).off + 1, none⟩ = some (.int .i64 ((rd_T82 t254 x4_1).f1))) (ds := []) #[false, false, false, false, false, false, false, false, false, false, false, false, false, false, false, false] (by kernel_rfl) rfl rfl ⟨(ZG BK253.out 0).trans rfl, (ZG BK253.out 1).trans rfl, hx257_0, hx257_1, hx258_0, hx258_1⟩ (fun hHeld => ?_); refine with_tabW meanderref09_ports.tab5 meanderref09_ports.bits5 (fun HT_ HW_ => ?_)
      generalize wr.drew = w14 at HO_3 BK253 HB hx257_0 hx257_1 hx258_0 hx258_1 hHeld ⊢
      refine ZPU (ZB 16 1) HT_.out 0 16 ?_
      refine ZPU (ZB 16 3) HT_.out 1 17 ?_
      refine ZPU (ZB 16 7) HT_.out 2 18 ?_
      refine ZPU (ZB 16 15) HT_.out 3 19 ?_
      refine ZTU (ZB 16 31) HT_.out HW_.out hHeld 4 20 ?_
      refine ZPU (ZB 16 63) HT_.out 5 21 ?_
      refine ZPU (ZB 16 127) HT_.out 6 22 ?_
      refine ZPU (ZB 16 383) HT_.out 8 24 ?_
      refine ZPU (ZB 16 895) HT_.out 9 25 ?_
      refine ZPU (ZB 16 1919) HT_.out 10 26 ?_
      refine ZTU (ZB 16 2047) HT_.out HW_.out hHeld 7 23 ?_
      refine ZTU (ZB 16 4095) HT_.out HW_.out hHeld 11 27 ?_
      refine one_ (i := 12) (N := some 28) (ZB 16 8191) rfl rfl (one_of HT_.out (by kernel_rfl)) (by decide) (fun K hK => ?_)
      refine goes_ Tryd.func47 (by kernel_rfl) rfl #[.agg #[.slice A0_0 l0_0.length c0_0, .slice A0_1 l0_1.length c0_1], .agg #[.int .i64 ((rd_T82 t254 x4_1).f0), .int .i64 ((rd_T82 t254 x4_1).f1)]] (by rfl) rfl rfl ZH ?_
      with_reducible refine (meanderref08_Prev.calls k1 _ _ l0_0 _ _ l0_1 ((rd_T82 t254 x4_1).f0) ((rd_T82 t254 x4_1).f1) t259 _ ?side1 ?side2 ?side3 ?side4 A11.out).mono ?_
      (case side1 => repeat (first | exact (Kd.C_below HR0_0.out HB.out) | (with_reducible refine Kd.C_alloc ?_ _) | (with_reducible refine Kd.C_drewN ?_ _) | (with_reducible refine Kd.C_drew ?_)))
      (case side2 => exact HC0_0.out)
      (case side3 => repeat (first | exact (Kd.C_below HR0_1.out HB.out) | (with_reducible refine Kd.C_alloc ?_ _) | (with_reducible refine Kd.C_drewN ?_ _) | (with_reducible refine Kd.C_drew ?_)))
      (case side4 => exact HC0_1.out)
      rintro e w15 ⟨v260, rfl, ho0, hb⟩
      have HS2_ := (hb.cell (ZC _ _ (hHeld.2.2.1))).trans (hHeld.2.2.1)
      have HS3_ := (hb.cell (ZC _ _ (hHeld.2.2.2.1))).trans (hHeld.2.2.2.1)
      have HS4_ := (hb.cell (ZC _ _ (hHeld.2.2.2.2.1))).trans (hHeld.2.2.2.2.1)
      have HS5_ := (hb.cell (ZC _ _ (hHeld.2.2.2.2.2))).trans (hHeld.2.2.2.2.2)
      refine ⟨_, rfl, ?_⟩
      have n0_ := ZM (Kd.R_below (ZRK HO_3.out) hb)
      have n1_ := ZM (Kd.R_lower ho0 (ZV (ZBB HB.out)))
      have n2_ := ZM (blk_below (ZBK BK253.out) hb)
      have n3_ := ZM (ZW (ZBB HB.out) hb)
      clear HO_3
      clear BK253
      clear HB
      have HO_3 := n0_
      have HO261 := n1_
      have BK253 := n2_
      have HB := n3_
      clear n0_ n1_ n2_ n3_
      (try clear hb)
      (try clear hb2)
      (try clear hk)
      (try clear hi)
      (try clear ho0)
      obtain ⟨Ao16, co16, eo16⟩ := Kd.R_slice HO261.out
      (first | subst eo16 | (injection eo16 with f1_ f2_ f3_; have f4_ := f1_.symm; have f5_ := f3_.symm; clear f1_ f2_ f3_; subst f4_; subst f5_))
      refine hK.out _ _ ⟨(ZG BK253.out 0).trans rfl, (ZG BK253.out 1).trans rfl, HS2_, HS3_, HS4_, HS5_⟩ (fun hHeld => ?_)
      clear hK K
      refine norm_ (a' := ?_) ?_ ?_
      rotate_left
      ·show Act.put _ (some 28) _ = _
       simp only [Act.put, ZI, ZJ, ZK, i64_w, i32_w]
       rfl
      refine ZPU (ZB 16 16383) HT_.out 13 29 ?_
      refine ZPU (ZB 16 32767) HT_.out 14 30 ?_
      refine ZPU (ZB 16 65535) HT_.out 15 31 ?_
      refine done_ (done_of HT_.out (by kernel_rfl)) ?_
      try go_wp2
      go_roundg k1
      case measure => have := HK1.out; omega
      case rel => exact ⟨(wrap64 (x4_1 + 1)), ZE, H', ⟨by have := HK1.out; omega⟩, ⟨ZRK HO_3.out⟩, ⟨ZBK BK253.out⟩, ⟨ZBB HB.out⟩⟩
     ·rw [if_neg c12] at H
      have c12b0 : ((t259.length : Int) == 1) = false := beq_eq_false_iff_ne.mpr c12
      have c12b1 : ((t259.length : Int) != 1) = true := bne_iff_ne.mpr c12
      obtain rfl := Option.some.inj H
      obtain ⟨Ao17, co17, eo17⟩ := Kd.R_slice HO_3.out
      subst eo17
      try go_wp2
      have n0_ := ZM (ZZ HO_3.out)
      have n1_ := ZM (ZS BK253.out)
      have n2_ := ZM (ZP HB.out)
      clear HO_3
      clear BK253
      clear HB
      have HO_3 := n0_
      have BK253 := n1_
      have HB := n2_
      clear n0_ n1_ n2_
      have p257 : 0 ≤ (x4_1 : Int) := ZOD
      have q257 : x4_1 < (t254.length : Int) := ZOD
      obtain ⟨ad257, e257, hx257_0, hx257_1⟩ := at_T82 (Kd.R_reads' HO_3.out).2.2 x4_1 p257 q257
      cases e257
      replace p257 := eq_true p257
      replace q257 := eq_true q257
      have p258 : 0 ≤ (x4_1 : Int) := ZOD
      have q258 : x4_1 < (t254.length : Int) := ZOD
      obtain ⟨ad258, e258, hx258_0, hx258_1⟩ := at_T82 (Kd.R_reads' HO_3.out).2.2 x4_1 p258 q258
      obtain rfl : ad257 = ad258 := (by injection e258)
      replace p258 := eq_true p258
      replace q258 := eq_true q258
      refine start_ (n := 16) (S := fun w' => w'.cell? ⟨gb253, 0, none⟩ = some (.slice A0_0 l0_0.length c0_0) ∧ w'.cell? ⟨gb253, 1, none⟩ = some (.slice A0_1 l0_1.length c0_1) ∧ w'.cell? (ad257.add ((x4_1).toNat * 2)) = some (.int .i64 ((rd_T82 t254 x4_1).f0)) ∧ w'.cell? ⟨(ad257.add ((x4_1).toNat * 2)).block, (ad257.add ((x4_1).toNat * 2)).off + 1, none⟩ = some (.int .i64 ((rd_T82 t254 x4_1).f1)) ∧ w'.cell? (ad257.add ((x4_1).toNat * 2)) = some (.int .i64 ((rd_T82 t254 x4_1).f0)) ∧ w'.cell? ⟨(ad257.add ((x4_1).toNat * 2)).block, (ad257.add ((x4_1).toNat * 2)).off + 1, none⟩ = some (.int .i64 ((rd_T82 t254 x4_1).f1))) (ds := []) #[false, false, false, false, false, false, false, false, false, false, false, false, false, false, false, false] (by kernel_rfl) rfl rfl ⟨(ZG BK253.out 0).trans rfl, (ZG BK253.out 1).trans rfl, hx257_0, hx257_1, hx258_0, hx258_1⟩ (fun hHeld => ?_); refine with_tabW meanderref09_ports.tab5 meanderref09_ports.bits5 (fun HT_ HW_ => ?_)
      generalize wr.drew = w18 at HO_3 BK253 HB hx257_0 hx257_1 hx258_0 hx258_1 hHeld ⊢
      refine ZPU (ZB 16 1) HT_.out 0 16 ?_
      refine ZPU (ZB 16 3) HT_.out 1 17 ?_
      refine ZPU (ZB 16 7) HT_.out 2 18 ?_
      refine ZPU (ZB 16 15) HT_.out 3 19 ?_
      refine ZTU (ZB 16 31) HT_.out HW_.out hHeld 4 20 ?_
      refine ZPU (ZB 16 63) HT_.out 5 21 ?_
      refine ZPU (ZB 16 127) HT_.out 6 22 ?_
      refine ZPU (ZB 16 383) HT_.out 8 24 ?_
      refine ZPU (ZB 16 895) HT_.out 9 25 ?_
      refine ZPU (ZB 16 1919) HT_.out 10 26 ?_
      refine ZTU (ZB 16 2047) HT_.out HW_.out hHeld 7 23 ?_
      refine ZTU (ZB 16 4095) HT_.out HW_.out hHeld 11 27 ?_
      refine one_ (i := 12) (N := some 28) (ZB 16 8191) rfl rfl (one_of HT_.out (by kernel_rfl)) (by decide) (fun K hK => ?_)
      refine goes_ Tryd.func47 (by kernel_rfl) rfl #[.agg #[.slice A0_0 l0_0.length c0_0, .slice A0_1 l0_1.length c0_1], .agg #[.int .i64 ((rd_T82 t254 x4_1).f0), .int .i64 ((rd_T82 t254 x4_1).f1)]] (by rfl) rfl rfl ZH ?_
      with_reducible refine (meanderref08_Prev.calls k1 _ _ l0_0 _ _ l0_1 ((rd_T82 t254 x4_1).f0) ((rd_T82 t254 x4_1).f1) t259 _ ?side1 ?side2 ?side3 ?side4 A11.out).mono ?_
      (case side1 => repeat (first | exact (Kd.C_below HR0_0.out HB.out) | (with_reducible refine Kd.C_alloc ?_ _) | (with_reducible refine Kd.C_drewN ?_ _) | (with_reducible refine Kd.C_drew ?_)))
      (case side2 => exact HC0_0.out)
      (case side3 => repeat (first | exact (Kd.C_below HR0_1.out HB.out) | (with_reducible refine Kd.C_alloc ?_ _) | (with_reducible refine Kd.C_drewN ?_ _) | (with_reducible refine Kd.C_drew ?_)))
      (case side4 => exact HC0_1.out)
      rintro e w19 ⟨v260, rfl, ho0, hb⟩
      have HS2_ := (hb.cell (ZC _ _ (hHeld.2.2.1))).trans (hHeld.2.2.1)
      have HS3_ := (hb.cell (ZC _ _ (hHeld.2.2.2.1))).trans (hHeld.2.2.2.1)
      have HS4_ := (hb.cell (ZC _ _ (hHeld.2.2.2.2.1))).trans (hHeld.2.2.2.2.1)
      have HS5_ := (hb.cell (ZC _ _ (hHeld.2.2.2.2.2))).trans (hHeld.2.2.2.2.2)
      refine ⟨_, rfl, ?_⟩
      have n0_ := ZM (Kd.R_below (ZRK HO_3.out) hb)
      have n1_ := ZM (Kd.R_lower ho0 (ZV (ZBB HB.out)))
      have n2_ := ZM (blk_below (ZBK BK253.out) hb)
      have n3_ := ZM (ZW (ZBB HB.out) hb)
      clear HO_3
      clear BK253
      clear HB
      have HO_3 := n0_
      have HO261 := n1_
      have BK253 := n2_
      have HB := n3_
      clear n0_ n1_ n2_ n3_
      (try clear hb)
      (try clear hb2)
      (try clear hk)
      (try clear hi)
      (try clear ho0)
      obtain ⟨Ao20, co20, eo20⟩ := Kd.R_slice HO261.out
      (first | subst eo20 | (injection eo20 with f1_ f2_ f3_; have f4_ := f1_.symm; have f5_ := f3_.symm; clear f1_ f2_ f3_; subst f4_; subst f5_))
      refine hK.out _ _ ⟨(ZG BK253.out 0).trans rfl, (ZG BK253.out 1).trans rfl, HS2_, HS3_, HS4_, HS5_⟩ (fun hHeld => ?_)
      clear hK K
      refine norm_ (a' := ?_) ?_ ?_
      rotate_left
      ·show Act.put _ (some 28) _ = _
       simp only [Act.put, ZI, ZJ, ZK, i64_w, i32_w]
       rfl
      refine ZPU (ZB 16 16383) HT_.out 13 29 ?_
      refine ZPU (ZB 16 32767) HT_.out 14 30 ?_
      refine ZPU (ZB 16 65535) HT_.out 15 31 ?_
      refine done_ (done_of HT_.out (by kernel_rfl)) ?_
      try go_wp2
      go_ret
      exact ⟨ZEE, ZBB HB.out⟩
   ·rw [if_neg c6] at H
    have c6b0 : decide (x4_1 < (t254.length : Int)) = false := decide_eq_false c6
    clear c6
    have H' := ZM H
    clear H
    obtain ⟨Ao21, co21, eo21⟩ := Kd.R_slice HO_3.out
    subst eo21
    go_wp2
    go_loopg [5] k1 (fun kq v5 w' => ∃ (x5_2 : Int), v5 = .int .i64 x5_2 ∧ Aside0 (meanderref09_ports.l1 kq t254 x5_2 l0_0 l0_1 = some r) ∧ Aside0 (kq ≤ k1) ∧ Aside0 (Kd.R k82 82 w' w.heap.size (fun _ => True) (.slice Ao21 t254.length co21) t254) ∧ Aside0 (w'.heap[gb253]? = some (.cells #[(.slice A0_0 l0_0.length c0_0), (.slice A0_1 l0_1.length c0_1)] 27 (0, 0))) ∧ Aside0 (Below w.heap.size w w'))
    case atStart => exact ⟨(0), ZE, H', ⟨Nat.le_refl _⟩, ⟨ZRK HO_3.out⟩, ⟨ZBK BK253.out⟩, ⟨ZBB HB.out⟩⟩
    case round =>
     clear H'
     try clear c6
     try clear c6b0
     try clear c7
     try clear c7b0
     try clear c8
     try clear c8b0
     try clear c8b1
     try clear c12
     try clear c12b0
     try clear c12b1
     try clear hcz4_0
     try clear hcz4_1
     try clear hfz4_0
     try clear hfz4_1
     try clear hx257_0
     try clear hx257_1
     try clear hx258_0
     try clear hx258_1
     try clear p257
     try clear p258
     try clear q257
     try clear q258
     obtain ⟨x5_2, rfl, HA, HK2, HO_3, BK253, HB⟩ := hrel
     cases gk with
     | zero => exact absurd HA.out (by simp [meanderref09_ports.l1])
     | succ k2 =>
      have H := HA.out
      clear HA
      simp only [meanderref09_ports.l1] at H
      by_cases c22 : x5_2 < (t254.length : Int)
      ·rw [if_pos c22] at H
       have c22b0 : decide (x5_2 < (t254.length : Int)) = true := decide_eq_true c22
       clear c22
       by_cases c23 : 0 ≤ x5_2
       case neg =>
        rw [if_neg c23] at H
        exact absurd H (by simp)
       rw [if_pos c23] at H
       have c23b0 : decide (0 ≤ x5_2) = true := decide_eq_true c23
       clear c23
       by_cases c24 : 0 ≤ ((rd_T82 t254 x5_2).f0)
       case neg =>
        rw [if_neg c24] at H
        exact absurd H (by simp)
       rw [if_pos c24] at H
       have c24b0 : decide (0 ≤ ((rd_T82 t254 x5_2).f0)) = true := decide_eq_true c24
       clear c24
       by_cases c25 : ((rd_T82 t254 x5_2).f0) < (l0_0.length : Int)
       case neg =>
        rw [if_neg c25] at H
        exact absurd H (by simp)
       rw [if_pos c25] at H
       have c25b0 : decide (((rd_T82 t254 x5_2).f0) < (l0_0.length : Int)) = true := decide_eq_true c25
       clear c25
       have HC26 := ZM H
       clear H
       try go_wp2
       have n0_ := ZM (ZZ HO_3.out)
       have n1_ := ZM (ZS BK253.out)
       have n2_ := ZM (ZP HB.out)
       clear HO_3
       clear BK253
       clear HB
       have HO_3 := n0_
       have BK253 := n1_
       have HB := n2_
       clear n0_ n1_ n2_
       have p262 : 0 ≤ (x5_2 : Int) := ZOD
       have q262 : x5_2 < (t254.length : Int) := ZOD
       obtain ⟨ad262, e262, hx262_0, hx262_1⟩ := at_T82 (Kd.R_reads' HO_3.out).2.2 x5_2 p262 q262
       cases e262
       replace p262 := eq_true p262
       replace q262 := eq_true q262
       have p263 : 0 ≤ (((rd_T82 t254 x5_2).f0) : Int) := ZOD
       have q263 : ((rd_T82 t254 x5_2).f0) < (l0_0.length : Int) := ZOD
       obtain ⟨ad263, e263, hx263_0, hx263_1, hx263_2, hx263_3⟩ := at_T40 HR0_0.out ((rd_T82 t254 x5_2).f0) p263 q263
       have hw263_3 := hx263_3
       have hw263_2 := hx263_2
       have hw263_1 := hx263_1
       have hw263_0 := hx263_0
       cases e263
       replace hx263_0 := ZHX HB.out hx263_0
       replace hx263_1 := ZHX HB.out hx263_1
       replace hx263_2 := ZHX HB.out hx263_2
       replace hx263_3 := ZHX HB.out hx263_3
       replace p263 := eq_true p263
       replace q263 := eq_true q263
       refine start_ (n := 11) (S := fun w' => w'.cell? ⟨gb253, 0, none⟩ = some (.slice (some ad263) l0_0.length c0_0) ∧ w'.cell? ⟨gb253, 1, none⟩ = some (.slice A0_1 l0_1.length c0_1) ∧ w'.cell? (ad262.add ((x5_2).toNat * 2)) = some (.int .i64 ((rd_T82 t254 x5_2).f0)) ∧ w'.cell? ⟨(ad262.add ((x5_2).toNat * 2)).block, (ad262.add ((x5_2).toNat * 2)).off + 1, none⟩ = some (.int .i64 ((rd_T82 t254 x5_2).f1)) ∧ w'.cell? (ad263.add ((((rd_T82 t254 x5_2).f0)).toNat * 4)) = some (.int .i64 ((rd_T40 l0_0 ((rd_T82 t254 x5_2).f0)).f0)) ∧ w'.cell? ⟨(ad263.add ((((rd_T82 t254 x5_2).f0)).toNat * 4)).block, (ad263.add ((((rd_T82 t254 x5_2).f0)).toNat * 4)).off + 1, none⟩ = some (.int .i64 ((rd_T40 l0_0 ((rd_T82 t254 x5_2).f0)).f1)) ∧ w'.cell? ⟨(ad263.add ((((rd_T82 t254 x5_2).f0)).toNat * 4)).block, (ad263.add ((((rd_T82 t254 x5_2).f0)).toNat * 4)).off + 2, none⟩ = some (.int .i64 ((rd_T40 l0_0 ((rd_T82 t254 x5_2).f0)).f2)) ∧ w'.cell? ⟨(ad263.add ((((rd_T82 t254 x5_2).f0)).toNat * 4)).block, (ad263.add ((((rd_T82 t254 x5_2).f0)).toNat * 4)).off + 3, none⟩ = some (.int .i64 ((rd_T40 l0_0 ((rd_T82 t254 x5_2).f0)).f3))) (ds := []) #[false, false, false, false, false, false, false, false, false, false, false] (by kernel_rfl) rfl rfl ⟨(ZG BK253.out 0).trans rfl, (ZG BK253.out 1).trans rfl, hx262_0, hx262_1, ((HB.out.cell (ZC w _ hw263_0)).trans hw263_0), ((HB.out.cell (ZC w _ hw263_1)).trans hw263_1), ((HB.out.cell (ZC w _ hw263_2)).trans hw263_2), ((HB.out.cell (ZC w _ hw263_3)).trans hw263_3)⟩ (fun hHeld => ?_); refine with_tabW meanderref09_ports.tab10 meanderref09_ports.bits10 (fun HT_ HW_ => ?_)
       generalize wr.drew = w27 at HO_3 BK253 HB hx262_0 hx262_1 hx263_0 hx263_1 hx263_2 hx263_3 hHeld ⊢
       refine ZPU (ZB 11 1) HT_.out 0 38 ?_
       refine ZPU (ZB 11 5) HT_.out 2 40 ?_
       refine ZPU (ZB 11 13) HT_.out 3 41 ?_
       refine ZPU (ZB 11 29) HT_.out 4 42 ?_
       refine ZPU (ZB 11 61) HT_.out 5 43 ?_
       refine ZTU (ZB 11 63) HT_.out HW_.out hHeld 1 39 ?_
       refine ZTU (ZB 11 127) HT_.out HW_.out hHeld 6 44 ?_
       refine ZPU (ZB 11 255) HT_.out 7 45 ?_
       refine ZTU (ZB 11 511) HT_.out HW_.out hHeld 8 46 ?_
       refine one_ (i := 9) (N := some 6) (ZB 11 1023) rfl rfl (one_of HT_.out (by kernel_rfl)) (by decide) (fun K hK => ?_)
       refine box_step ?hg (N := 6) ?hd (cs := #[.int .i64 0, .int .i64 0, .int .i64 0, .int .i64 0]) (t := 40) ?hr ?_; (case hd => rfl); (case hg => rfl); (case hr => first | (go_simp; done) | (go_simp; rfl))
       intro gb264 hg w28 hbox hb
       have HS2_ := (hb.cell (ZC _ _ (hHeld.2.2.1))).trans (hHeld.2.2.1)
       have HS3_ := (hb.cell (ZC _ _ (hHeld.2.2.2.1))).trans (hHeld.2.2.2.1)
       have n0_ := ZM (Kd.R_below (ZRK HO_3.out) hb)
       have n1_ := ZM (blk_below (ZBK BK253.out) hb)
       have n2_ := ZM (ZW (ZBB HB.out) hb)
       have n3_ := ZM (hbox)
       have n4_ := ZM (ZGE hg HB.out)
       have n5_ := ZM (ZGE hg HB.out)
       have n6_ := ZM (ZNE hg BK253.out)
       have n7_ := ZM (ZNG hg BK253.out)
       clear HO_3
       clear BK253
       clear HB
       have HO_3 := n0_
       have BK253 := n1_
       have HB := n2_
       have BK264 := n3_
       have GW264 := n4_
       have GE264 := n5_
       have NB253_264 := n6_
       have NB264_253 := n7_
       clear n0_ n1_ n2_ n3_ n4_ n5_ n6_ n7_
       clear hb hbox hg
       refine hK.out _ _ ⟨(ZG BK253.out 0).trans rfl, (ZG BK253.out 1).trans rfl, HS2_, HS3_, ((HB.out.cell (ZC w _ hw263_0)).trans hw263_0), ((HB.out.cell (ZC w _ hw263_1)).trans hw263_1), ((HB.out.cell (ZC w _ hw263_2)).trans hw263_2), ((HB.out.cell (ZC w _ hw263_3)).trans hw263_3)⟩ (fun hHeld => ?_)
       clear hK K
       refine norm_ (a' := ?_) ?_ ?_
       rotate_left
       ·show Act.put _ (some 6) _ = _
        simp only [Act.put, ZI, ZJ, ZK, i64_w, i32_w]
        rfl
       refine one_ (i := 10) (N := none) (ZB 11 2047) rfl rfl (one_of HT_.out (by kernel_rfl)) (by decide) (fun K hK => ?_)
       have hs29 : w28.cell? ⟨gb264, 0, none⟩ = some (.int .i64 0) := (ZG BK264.out 0).trans rfl
       have hfs29 := ZF BK264.out 0
       have hns29_0 := NB253_264.out
       have hms29_0 := NB264_253.out
       have hs30 : w28.cell? ⟨gb264, 1, none⟩ = some (.int .i64 0) := (ZG BK264.out 1).trans rfl
       have hfs30 := ZF BK264.out 1
       have hns30_0 := NB253_264.out
       have hms30_0 := NB264_253.out
       have hs31 : w28.cell? ⟨gb264, 2, none⟩ = some (.int .i64 0) := (ZG BK264.out 2).trans rfl
       have hfs31 := ZF BK264.out 2
       have hns31_0 := NB253_264.out
       have hms31_0 := NB264_253.out
       have hs32 : w28.cell? ⟨gb264, 3, none⟩ = some (.int .i64 0) := (ZG BK264.out 3).trans rfl
       have hfs32 := ZF BK264.out 3
       have hns32_0 := NB253_264.out
       have hms32_0 := NB264_253.out
       refine skip_ (w1 := ?_) (by rfl) rfl ?_ ?_
       rotate_left
       ·go_simp
        rfl
       refine hK.out _ _ ⟨((cell_far (p := ⟨gb264, _, none⟩) NB253_264.out _).trans (((cell_far (p := ⟨gb264, _, none⟩) NB253_264.out _).trans (((cell_far (p := ⟨gb264, _, none⟩) NB253_264.out _).trans (((cell_far (p := ⟨gb264, _, none⟩) NB253_264.out _).trans (hHeld.1)))))))), ((cell_far (p := ⟨gb264, _, none⟩) NB253_264.out _).trans (((cell_far (p := ⟨gb264, _, none⟩) NB253_264.out _).trans (((cell_far (p := ⟨gb264, _, none⟩) NB253_264.out _).trans (((cell_far (p := ⟨gb264, _, none⟩) NB253_264.out _).trans (hHeld.2.1)))))))), ((cell_far (p := ⟨gb264, _, none⟩) (by first | exact Kd.own_blk (Kd.R_ne HO_3.out BK264.out (by decide)) | (rw [add_block]; exact Kd.own_blk (Kd.R_ne HO_3.out BK264.out (by decide))) | (show (Addr.add _ _).block ≠ _; rw [add_block]; exact Kd.own_blk (Kd.R_ne HO_3.out BK264.out (by decide))) | (dsimp only; exact Kd.own_blk (Kd.R_ne HO_3.out BK264.out (by decide)))) _).trans (((cell_far (p := ⟨gb264, _, none⟩) (by first | exact Kd.own_blk (Kd.R_ne HO_3.out BK264.out (by decide)) | (rw [add_block]; exact Kd.own_blk (Kd.R_ne HO_3.out BK264.out (by decide))) | (show (Addr.add _ _).block ≠ _; rw [add_block]; exact Kd.own_blk (Kd.R_ne HO_3.out BK264.out (by decide))) | (dsimp only; exact Kd.own_blk (Kd.R_ne HO_3.out BK264.out (by decide)))) _).trans (((cell_far (p := ⟨gb264, _, none⟩) (by first | exact Kd.own_blk (Kd.R_ne HO_3.out BK264.out (by decide)) | (rw [add_block]; exact Kd.own_blk (Kd.R_ne HO_3.out BK264.out (by decide))) | (show (Addr.add _ _).block ≠ _; rw [add_block]; exact Kd.own_blk (Kd.R_ne HO_3.out BK264.out (by decide))) | (dsimp only; exact Kd.own_blk (Kd.R_ne HO_3.out BK264.out (by decide)))) _).trans (((cell_far (p := ⟨gb264, _, none⟩) (by first | exact Kd.own_blk (Kd.R_ne HO_3.out BK264.out (by decide)) | (rw [add_block]; exact Kd.own_blk (Kd.R_ne HO_3.out BK264.out (by decide))) | (show (Addr.add _ _).block ≠ _; rw [add_block]; exact Kd.own_blk (Kd.R_ne HO_3.out BK264.out (by decide))) | (dsimp only; exact Kd.own_blk (Kd.R_ne HO_3.out BK264.out (by decide)))) _).trans (hHeld.2.2.1)))))))), ((cell_far (p := ⟨gb264, _, none⟩) (by first | exact Kd.own_blk (Kd.R_ne HO_3.out BK264.out (by decide)) | (rw [add_block]; exact Kd.own_blk (Kd.R_ne HO_3.out BK264.out (by decide))) | (show (Addr.add _ _).block ≠ _; rw [add_block]; exact Kd.own_blk (Kd.R_ne HO_3.out BK264.out (by decide))) | (dsimp only; exact Kd.own_blk (Kd.R_ne HO_3.out BK264.out (by decide)))) _).trans (((cell_far (p := ⟨gb264, _, none⟩) (by first | exact Kd.own_blk (Kd.R_ne HO_3.out BK264.out (by decide)) | (rw [add_block]; exact Kd.own_blk (Kd.R_ne HO_3.out BK264.out (by decide))) | (show (Addr.add _ _).block ≠ _; rw [add_block]; exact Kd.own_blk (Kd.R_ne HO_3.out BK264.out (by decide))) | (dsimp only; exact Kd.own_blk (Kd.R_ne HO_3.out BK264.out (by decide)))) _).trans (((cell_far (p := ⟨gb264, _, none⟩) (by first | exact Kd.own_blk (Kd.R_ne HO_3.out BK264.out (by decide)) | (rw [add_block]; exact Kd.own_blk (Kd.R_ne HO_3.out BK264.out (by decide))) | (show (Addr.add _ _).block ≠ _; rw [add_block]; exact Kd.own_blk (Kd.R_ne HO_3.out BK264.out (by decide))) | (dsimp only; exact Kd.own_blk (Kd.R_ne HO_3.out BK264.out (by decide)))) _).trans (((cell_far (p := ⟨gb264, _, none⟩) (by first | exact Kd.own_blk (Kd.R_ne HO_3.out BK264.out (by decide)) | (rw [add_block]; exact Kd.own_blk (Kd.R_ne HO_3.out BK264.out (by decide))) | (show (Addr.add _ _).block ≠ _; rw [add_block]; exact Kd.own_blk (Kd.R_ne HO_3.out BK264.out (by decide))) | (dsimp only; exact Kd.own_blk (Kd.R_ne HO_3.out BK264.out (by decide)))) _).trans (hHeld.2.2.2.1)))))))), ((cell_far (p := ⟨gb264, _, none⟩) (by first | exact Nat.ne_of_lt (Nat.lt_of_lt_of_le (by have := ZC _ _ hw263_0; first | rwa [add_block] at this | exact this) GW264.out) | (rw [add_block]; exact Nat.ne_of_lt (Nat.lt_of_lt_of_le (by have := ZC _ _ hw263_0; first | rwa [add_block] at this | exact this) GW264.out)) | (show (Addr.add _ _).block ≠ _; rw [add_block]; exact Nat.ne_of_lt (Nat.lt_of_lt_of_le (by have := ZC _ _ hw263_0; first | rwa [add_block] at this | exact this) GW264.out)) | (dsimp only; exact Nat.ne_of_lt (Nat.lt_of_lt_of_le (by have := ZC _ _ hw263_0; first | rwa [add_block] at this | exact this) GW264.out))) _).trans (((cell_far (p := ⟨gb264, _, none⟩) (by first | exact Nat.ne_of_lt (Nat.lt_of_lt_of_le (by have := ZC _ _ hw263_0; first | rwa [add_block] at this | exact this) GW264.out) | (rw [add_block]; exact Nat.ne_of_lt (Nat.lt_of_lt_of_le (by have := ZC _ _ hw263_0; first | rwa [add_block] at this | exact this) GW264.out)) | (show (Addr.add _ _).block ≠ _; rw [add_block]; exact Nat.ne_of_lt (Nat.lt_of_lt_of_le (by have := ZC _ _ hw263_0; first | rwa [add_block] at this | exact this) GW264.out)) | (dsimp only; exact Nat.ne_of_lt (Nat.lt_of_lt_of_le (by have := ZC _ _ hw263_0; first | rwa [add_block] at this | exact this) GW264.out))) _).trans (((cell_far (p := ⟨gb264, _, none⟩) (by first | exact Nat.ne_of_lt (Nat.lt_of_lt_of_le (by have := ZC _ _ hw263_0; first | rwa [add_block] at this | exact this) GW264.out) | (rw [add_block]; exact Nat.ne_of_lt (Nat.lt_of_lt_of_le (by have := ZC _ _ hw263_0; first | rwa [add_block] at this | exact this) GW264.out)) | (show (Addr.add _ _).block ≠ _; rw [add_block]; exact Nat.ne_of_lt (Nat.lt_of_lt_of_le (by have := ZC _ _ hw263_0; first | rwa [add_block] at this | exact this) GW264.out)) | (dsimp only; exact Nat.ne_of_lt (Nat.lt_of_lt_of_le (by have := ZC _ _ hw263_0; first | rwa [add_block] at this | exact this) GW264.out))) _).trans (((cell_far (p := ⟨gb264, _, none⟩) (by first | exact Nat.ne_of_lt (Nat.lt_of_lt_of_le (by have := ZC _ _ hw263_0; first | rwa [add_block] at this | exact this) GW264.out) | (rw [add_block]; exact Nat.ne_of_lt (Nat.lt_of_lt_of_le (by have := ZC _ _ hw263_0; first | rwa [add_block] at this | exact this) GW264.out)) | (show (Addr.add _ _).block ≠ _; rw [add_block]; exact Nat.ne_of_lt (Nat.lt_of_lt_of_le (by have := ZC _ _ hw263_0; first | rwa [add_block] at this | exact this) GW264.out)) | (dsimp only; exact Nat.ne_of_lt (Nat.lt_of_lt_of_le (by have := ZC _ _ hw263_0; first | rwa [add_block] at this | exact this) GW264.out))) _).trans (hHeld.2.2.2.2.1)))))))), ((cell_far (p := ⟨gb264, _, none⟩) (by first | exact Nat.ne_of_lt (Nat.lt_of_lt_of_le (by have := ZC _ _ hw263_1; first | rwa [add_block] at this | exact this) GW264.out) | (rw [add_block]; exact Nat.ne_of_lt (Nat.lt_of_lt_of_le (by have := ZC _ _ hw263_1; first | rwa [add_block] at this | exact this) GW264.out)) | (show (Addr.add _ _).block ≠ _; rw [add_block]; exact Nat.ne_of_lt (Nat.lt_of_lt_of_le (by have := ZC _ _ hw263_1; first | rwa [add_block] at this | exact this) GW264.out)) | (dsimp only; exact Nat.ne_of_lt (Nat.lt_of_lt_of_le (by have := ZC _ _ hw263_1; first | rwa [add_block] at this | exact this) GW264.out))) _).trans (((cell_far (p := ⟨gb264, _, none⟩) (by first | exact Nat.ne_of_lt (Nat.lt_of_lt_of_le (by have := ZC _ _ hw263_1; first | rwa [add_block] at this | exact this) GW264.out) | (rw [add_block]; exact Nat.ne_of_lt (Nat.lt_of_lt_of_le (by have := ZC _ _ hw263_1; first | rwa [add_block] at this | exact this) GW264.out)) | (show (Addr.add _ _).block ≠ _; rw [add_block]; exact Nat.ne_of_lt (Nat.lt_of_lt_of_le (by have := ZC _ _ hw263_1; first | rwa [add_block] at this | exact this) GW264.out)) | (dsimp only; exact Nat.ne_of_lt (Nat.lt_of_lt_of_le (by have := ZC _ _ hw263_1; first | rwa [add_block] at this | exact this) GW264.out))) _).trans (((cell_far (p := ⟨gb264, _, none⟩) (by first | exact Nat.ne_of_lt (Nat.lt_of_lt_of_le (by have := ZC _ _ hw263_1; first | rwa [add_block] at this | exact this) GW264.out) | (rw [add_block]; exact Nat.ne_of_lt (Nat.lt_of_lt_of_le (by have := ZC _ _ hw263_1; first | rwa [add_block] at this | exact this) GW264.out)) | (show (Addr.add _ _).block ≠ _; rw [add_block]; exact Nat.ne_of_lt (Nat.lt_of_lt_of_le (by have := ZC _ _ hw263_1; first | rwa [add_block] at this | exact this) GW264.out)) | (dsimp only; exact Nat.ne_of_lt (Nat.lt_of_lt_of_le (by have := ZC _ _ hw263_1; first | rwa [add_block] at this | exact this) GW264.out))) _).trans (((cell_far (p := ⟨gb264, _, none⟩) (by first | exact Nat.ne_of_lt (Nat.lt_of_lt_of_le (by have := ZC _ _ hw263_1; first | rwa [add_block] at this | exact this) GW264.out) | (rw [add_block]; exact Nat.ne_of_lt (Nat.lt_of_lt_of_le (by have := ZC _ _ hw263_1; first | rwa [add_block] at this | exact this) GW264.out)) | (show (Addr.add _ _).block ≠ _; rw [add_block]; exact Nat.ne_of_lt (Nat.lt_of_lt_of_le (by have := ZC _ _ hw263_1; first | rwa [add_block] at this | exact this) GW264.out)) | (dsimp only; exact Nat.ne_of_lt (Nat.lt_of_lt_of_le (by have := ZC _ _ hw263_1; first | rwa [add_block] at this | exact this) GW264.out))) _).trans (hHeld.2.2.2.2.2.1)))))))), ((cell_far (p := ⟨gb264, _, none⟩) (by first | exact Nat.ne_of_lt (Nat.lt_of_lt_of_le (by have := ZC _ _ hw263_2; first | rwa [add_block] at this | exact this) GW264.out) | (rw [add_block]; exact Nat.ne_of_lt (Nat.lt_of_lt_of_le (by have := ZC _ _ hw263_2; first | rwa [add_block] at this | exact this) GW264.out)) | (show (Addr.add _ _).block ≠ _; rw [add_block]; exact Nat.ne_of_lt (Nat.lt_of_lt_of_le (by have := ZC _ _ hw263_2; first | rwa [add_block] at this | exact this) GW264.out)) | (dsimp only; exact Nat.ne_of_lt (Nat.lt_of_lt_of_le (by have := ZC _ _ hw263_2; first | rwa [add_block] at this | exact this) GW264.out))) _).trans (((cell_far (p := ⟨gb264, _, none⟩) (by first | exact Nat.ne_of_lt (Nat.lt_of_lt_of_le (by have := ZC _ _ hw263_2; first | rwa [add_block] at this | exact this) GW264.out) | (rw [add_block]; exact Nat.ne_of_lt (Nat.lt_of_lt_of_le (by have := ZC _ _ hw263_2; first | rwa [add_block] at this | exact this) GW264.out)) | (show (Addr.add _ _).block ≠ _; rw [add_block]; exact Nat.ne_of_lt (Nat.lt_of_lt_of_le (by have := ZC _ _ hw263_2; first | rwa [add_block] at this | exact this) GW264.out)) | (dsimp only; exact Nat.ne_of_lt (Nat.lt_of_lt_of_le (by have := ZC _ _ hw263_2; first | rwa [add_block] at this | exact this) GW264.out))) _).trans (((cell_far (p := ⟨gb264, _, none⟩) (by first | exact Nat.ne_of_lt (Nat.lt_of_lt_of_le (by have := ZC _ _ hw263_2; first | rwa [add_block] at this | exact this) GW264.out) | (rw [add_block]; exact Nat.ne_of_lt (Nat.lt_of_lt_of_le (by have := ZC _ _ hw263_2; first | rwa [add_block] at this | exact this) GW264.out)) | (show (Addr.add _ _).block ≠ _; rw [add_block]; exact Nat.ne_of_lt (Nat.lt_of_lt_of_le (by have := ZC _ _ hw263_2; first | rwa [add_block] at this | exact this) GW264.out)) | (dsimp only; exact Nat.ne_of_lt (Nat.lt_of_lt_of_le (by have := ZC _ _ hw263_2; first | rwa [add_block] at this | exact this) GW264.out))) _).trans (((cell_far (p := ⟨gb264, _, none⟩) (by first | exact Nat.ne_of_lt (Nat.lt_of_lt_of_le (by have := ZC _ _ hw263_2; first | rwa [add_block] at this | exact this) GW264.out) | (rw [add_block]; exact Nat.ne_of_lt (Nat.lt_of_lt_of_le (by have := ZC _ _ hw263_2; first | rwa [add_block] at this | exact this) GW264.out)) | (show (Addr.add _ _).block ≠ _; rw [add_block]; exact Nat.ne_of_lt (Nat.lt_of_lt_of_le (by have := ZC _ _ hw263_2; first | rwa [add_block] at this | exact this) GW264.out)) | (dsimp only; exact Nat.ne_of_lt (Nat.lt_of_lt_of_le (by have := ZC _ _ hw263_2; first | rwa [add_block] at this | exact this) GW264.out))) _).trans (hHeld.2.2.2.2.2.2.1)))))))), ((cell_far (p := ⟨gb264, _, none⟩) (by first | exact Nat.ne_of_lt (Nat.lt_of_lt_of_le (by have := ZC _ _ hw263_3; first | rwa [add_block] at this | exact this) GW264.out) | (rw [add_block]; exact Nat.ne_of_lt (Nat.lt_of_lt_of_le (by have := ZC _ _ hw263_3; first | rwa [add_block] at this | exact this) GW264.out)) | (show (Addr.add _ _).block ≠ _; rw [add_block]; exact Nat.ne_of_lt (Nat.lt_of_lt_of_le (by have := ZC _ _ hw263_3; first | rwa [add_block] at this | exact this) GW264.out)) | (dsimp only; exact Nat.ne_of_lt (Nat.lt_of_lt_of_le (by have := ZC _ _ hw263_3; first | rwa [add_block] at this | exact this) GW264.out))) _).trans (((cell_far (p := ⟨gb264, _, none⟩) (by first | exact Nat.ne_of_lt (Nat.lt_of_lt_of_le (by have := ZC _ _ hw263_3; first | rwa [add_block] at this | exact this) GW264.out) | (rw [add_block]; exact Nat.ne_of_lt (Nat.lt_of_lt_of_le (by have := ZC _ _ hw263_3; first | rwa [add_block] at this | exact this) GW264.out)) | (show (Addr.add _ _).block ≠ _; rw [add_block]; exact Nat.ne_of_lt (Nat.lt_of_lt_of_le (by have := ZC _ _ hw263_3; first | rwa [add_block] at this | exact this) GW264.out)) | (dsimp only; exact Nat.ne_of_lt (Nat.lt_of_lt_of_le (by have := ZC _ _ hw263_3; first | rwa [add_block] at this | exact this) GW264.out))) _).trans (((cell_far (p := ⟨gb264, _, none⟩) (by first | exact Nat.ne_of_lt (Nat.lt_of_lt_of_le (by have := ZC _ _ hw263_3; first | rwa [add_block] at this | exact this) GW264.out) | (rw [add_block]; exact Nat.ne_of_lt (Nat.lt_of_lt_of_le (by have := ZC _ _ hw263_3; first | rwa [add_block] at this | exact this) GW264.out)) | (show (Addr.add _ _).block ≠ _; rw [add_block]; exact Nat.ne_of_lt (Nat.lt_of_lt_of_le (by have := ZC _ _ hw263_3; first | rwa [add_block] at this | exact this) GW264.out)) | (dsimp only; exact Nat.ne_of_lt (Nat.lt_of_lt_of_le (by have := ZC _ _ hw263_3; first | rwa [add_block] at this | exact this) GW264.out))) _).trans (((cell_far (p := ⟨gb264, _, none⟩) (by first | exact Nat.ne_of_lt (Nat.lt_of_lt_of_le (by have := ZC _ _ hw263_3; first | rwa [add_block] at this | exact this) GW264.out) | (rw [add_block]; exact Nat.ne_of_lt (Nat.lt_of_lt_of_le (by have := ZC _ _ hw263_3; first | rwa [add_block] at this | exact this) GW264.out)) | (show (Addr.add _ _).block ≠ _; rw [add_block]; exact Nat.ne_of_lt (Nat.lt_of_lt_of_le (by have := ZC _ _ hw263_3; first | rwa [add_block] at this | exact this) GW264.out)) | (dsimp only; exact Nat.ne_of_lt (Nat.lt_of_lt_of_le (by have := ZC _ _ hw263_3; first | rwa [add_block] at this | exact this) GW264.out))) _).trans (hHeld.2.2.2.2.2.2.2))))))))⟩ (fun hHeld => ?_)
       clear hK K
       refine done_ (done_of HT_.out (by kernel_rfl)) ?_
       go_upto_region 11 with (fail)
       go_cut [62] (fun v62 wc => ∃ (kq : Nat) (x62_25 : Bool), v62 = .bool x62_25 ∧ Aside0 (meanderref09_ports.j2 kq t254 x5_2 x62_25 l0_0 l0_1 = some r) ∧ Aside0 (kq ≤ k2) ∧ Aside0 (Kd.R k82 82 wc w.heap.size (fun _ => True) (.slice (some ad262) t254.length co21) t254) ∧ Aside0 (wc.heap[gb253]? = some (.cells #[(.slice (some ad263) l0_0.length c0_0), (.slice A0_1 l0_1.length c0_1)] 27 (0, 0))) ∧ Aside0 (wc.heap[gb264]? = some (.cells #[.int .i64 ((rd_T40 l0_0 ((rd_T82 t254 x5_2).f0)).f0), .int .i64 ((rd_T40 l0_0 ((rd_T82 t254 x5_2).f0)).f1), .int .i64 ((rd_T40 l0_0 ((rd_T82 t254 x5_2).f0)).f2), .int .i64 ((rd_T40 l0_0 ((rd_T82 t254 x5_2).f0)).f3)] 40 (0, 0))) ∧ Aside0 (Below w.heap.size w wc))
       case first =>
        have H := HC26.out
        clear HC26
        by_cases c33 : ((rd_T82 t254 x5_2).f1) = (-1)
        ·rw [if_pos c33] at H
         have c33b0 : (((rd_T82 t254 x5_2).f1) == (-1)) = true := beq_iff_eq.mpr c33
         have c33b1 : (((rd_T82 t254 x5_2).f1) != (-1)) = false := bne_eq_false_iff_eq.mpr c33
         clear c33
         (first | rw [c33b0] | (simp only [i64_w, i32_w]; rw [c33b0]) | skip)
         have H' := ZM H
         clear H
         have p265 : 0 ≤ (x5_2 : Int) := ZOD
         have q265 : x5_2 < (t254.length : Int) := ZOD
         obtain ⟨ad265, e265, hx265_0, hx265_1⟩ := at_T82 (Kd.R_reads' HO_3.out).2.2 x5_2 p265 q265
         obtain rfl : ad262 = ad265 := (by injection e265)
         have hn265_0 : ad262.block ≠ gb264 := Kd.own_blk (Kd.R_ne HO_3.out BK264.out (by decide))
         have hn265_1 : ad262.block ≠ gb264 := Kd.own_blk (Kd.R_ne HO_3.out BK264.out (by decide))
         have hn265_2 : ad262.block ≠ gb264 := Kd.own_blk (Kd.R_ne HO_3.out BK264.out (by decide))
         have hn265_3 : ad262.block ≠ gb264 := Kd.own_blk (Kd.R_ne HO_3.out BK264.out (by decide))
         replace hx265_0 := (cell_far (p := ⟨gb264, 0, none⟩) (by first | (rw [add_block]; exact hn265_0) | (show (Addr.add _ _).block ≠ _; rw [add_block]; exact hn265_0) | exact hn265_0) (.int .i64 ((rd_T40 l0_0 ((rd_T82 t254 x5_2).f0)).f0))).trans hx265_0
         replace hx265_1 := (cell_far (p := ⟨gb264, 0, none⟩) (by first | (rw [add_block]; exact hn265_0) | (show (Addr.add _ _).block ≠ _; rw [add_block]; exact hn265_0) | exact hn265_0) (.int .i64 ((rd_T40 l0_0 ((rd_T82 t254 x5_2).f0)).f0))).trans hx265_1
         replace hx265_0 := (cell_far (p := ⟨gb264, 1, none⟩) (by first | (rw [add_block]; exact hn265_1) | (show (Addr.add _ _).block ≠ _; rw [add_block]; exact hn265_1) | exact hn265_1) (.int .i64 ((rd_T40 l0_0 ((rd_T82 t254 x5_2).f0)).f1))).trans hx265_0
         replace hx265_1 := (cell_far (p := ⟨gb264, 1, none⟩) (by first | (rw [add_block]; exact hn265_1) | (show (Addr.add _ _).block ≠ _; rw [add_block]; exact hn265_1) | exact hn265_1) (.int .i64 ((rd_T40 l0_0 ((rd_T82 t254 x5_2).f0)).f1))).trans hx265_1
         replace hx265_0 := (cell_far (p := ⟨gb264, 2, none⟩) (by first | (rw [add_block]; exact hn265_2) | (show (Addr.add _ _).block ≠ _; rw [add_block]; exact hn265_2) | exact hn265_2) (.int .i64 ((rd_T40 l0_0 ((rd_T82 t254 x5_2).f0)).f2))).trans hx265_0
         replace hx265_1 := (cell_far (p := ⟨gb264, 2, none⟩) (by first | (rw [add_block]; exact hn265_2) | (show (Addr.add _ _).block ≠ _; rw [add_block]; exact hn265_2) | exact hn265_2) (.int .i64 ((rd_T40 l0_0 ((rd_T82 t254 x5_2).f0)).f2))).trans hx265_1
         replace hx265_0 := (cell_far (p := ⟨gb264, 3, none⟩) (by first | (rw [add_block]; exact hn265_3) | (show (Addr.add _ _).block ≠ _; rw [add_block]; exact hn265_3) | exact hn265_3) (.int .i64 ((rd_T40 l0_0 ((rd_T82 t254 x5_2).f0)).f3))).trans hx265_0
         replace hx265_1 := (cell_far (p := ⟨gb264, 3, none⟩) (by first | (rw [add_block]; exact hn265_3) | (show (Addr.add _ _).block ≠ _; rw [add_block]; exact hn265_3) | exact hn265_3) (.int .i64 ((rd_T40 l0_0 ((rd_T82 t254 x5_2).f0)).f3))).trans hx265_1
         clear hn265_0
         clear hn265_1
         clear hn265_2
         clear hn265_3
         replace p265 := eq_true p265
         replace q265 := eq_true q265
         go_wp2
         go_meet
         case rel => exact ⟨_, (true), ZE, H', ⟨by have := HK1.out; have := HK2.out; first | omega | exact Nat.le_refl _⟩, ⟨by (with_reducible repeat (first | apply ZY | apply ZX | apply ZZ)); exact Kd.R_mono (Kd.R_far (p := ⟨gb264, 3, none⟩) (Kd.R_far (p := ⟨gb264, 2, none⟩) (Kd.R_far (p := ⟨gb264, 1, none⟩) (Kd.R_far (p := ⟨gb264, 0, none⟩) (Kd.R_types HO_3.out BK264.out (by decide)) (fun _ hk => hk.2) (.int .i64 ((rd_T40 l0_0 ((rd_T82 t254 x5_2).f0)).f0))) (fun _ hk => hk.2) (.int .i64 ((rd_T40 l0_0 ((rd_T82 t254 x5_2).f0)).f1))) (fun _ hk => hk.2) (.int .i64 ((rd_T40 l0_0 ((rd_T82 t254 x5_2).f0)).f2))) (fun _ hk => hk.2) (.int .i64 ((rd_T40 l0_0 ((rd_T82 t254 x5_2).f0)).f3))) (fun _ hk => trivial)⟩, ⟨ZBF BK253.out NB253_264.out⟩, ⟨by (with_reducible repeat (first | refine ZR ?_ _ | refine ZS ?_ | refine ZT ?_ _)); refine blk_put (cs := #[.int .i64 ((rd_T40 l0_0 ((rd_T82 t254 x5_2).f0)).f0), .int .i64 ((rd_T40 l0_0 ((rd_T82 t254 x5_2).f0)).f1), .int .i64 ((rd_T40 l0_0 ((rd_T82 t254 x5_2).f0)).f2), .int .i64 0]) ?_ 3 _ rfl; (with_reducible repeat (first | refine ZR ?_ _ | refine ZS ?_ | refine ZT ?_ _)); refine blk_put (cs := #[.int .i64 ((rd_T40 l0_0 ((rd_T82 t254 x5_2).f0)).f0), .int .i64 ((rd_T40 l0_0 ((rd_T82 t254 x5_2).f0)).f1), .int .i64 0, .int .i64 0]) ?_ 2 _ rfl; (with_reducible repeat (first | refine ZR ?_ _ | refine ZS ?_ | refine ZT ?_ _)); refine blk_put (cs := #[.int .i64 ((rd_T40 l0_0 ((rd_T82 t254 x5_2).f0)).f0), .int .i64 0, .int .i64 0, .int .i64 0]) ?_ 1 _ rfl; (with_reducible repeat (first | refine ZR ?_ _ | refine ZS ?_ | refine ZT ?_ _)); refine blk_put (cs := #[.int .i64 0, .int .i64 0, .int .i64 0, .int .i64 0]) ?_ 0 _ rfl; (with_reducible repeat (first | refine ZR ?_ _ | refine ZS ?_ | refine ZT ?_ _)); exact BK264.out⟩, ⟨ZBB HB.out⟩⟩
        ·rw [if_neg c33] at H
         have c33b0 : (((rd_T82 t254 x5_2).f1) == (-1)) = false := beq_eq_false_iff_ne.mpr c33
         have c33b1 : (((rd_T82 t254 x5_2).f1) != (-1)) = true := bne_iff_ne.mpr c33
         (first | rw [c33b0] | (simp only [i64_w, i32_w]; rw [c33b0]) | skip)
         by_cases c34 : ((rd_T40 l0_0 ((rd_T82 t254 x5_2).f0)).f0) = 6
         ·rw [if_pos c34] at H
          have c34b0 : (((rd_T40 l0_0 ((rd_T82 t254 x5_2).f0)).f0) == 6) = true := beq_iff_eq.mpr c34
          have c34b1 : (((rd_T40 l0_0 ((rd_T82 t254 x5_2).f0)).f0) != 6) = false := bne_eq_false_iff_eq.mpr c34
          clear c34
          have H' := ZM H
          clear H
          have p265 : 0 ≤ (x5_2 : Int) := ZOD
          have q265 : x5_2 < (t254.length : Int) := ZOD
          obtain ⟨ad265, e265, hx265_0, hx265_1⟩ := at_T82 (Kd.R_reads' HO_3.out).2.2 x5_2 p265 q265
          obtain rfl : ad262 = ad265 := (by injection e265)
          have hn265_0 : ad262.block ≠ gb264 := Kd.own_blk (Kd.R_ne HO_3.out BK264.out (by decide))
          have hn265_1 : ad262.block ≠ gb264 := Kd.own_blk (Kd.R_ne HO_3.out BK264.out (by decide))
          have hn265_2 : ad262.block ≠ gb264 := Kd.own_blk (Kd.R_ne HO_3.out BK264.out (by decide))
          have hn265_3 : ad262.block ≠ gb264 := Kd.own_blk (Kd.R_ne HO_3.out BK264.out (by decide))
          replace hx265_0 := (cell_far (p := ⟨gb264, 0, none⟩) (by first | (rw [add_block]; exact hn265_0) | (show (Addr.add _ _).block ≠ _; rw [add_block]; exact hn265_0) | exact hn265_0) (.int .i64 ((rd_T40 l0_0 ((rd_T82 t254 x5_2).f0)).f0))).trans hx265_0
          replace hx265_1 := (cell_far (p := ⟨gb264, 0, none⟩) (by first | (rw [add_block]; exact hn265_0) | (show (Addr.add _ _).block ≠ _; rw [add_block]; exact hn265_0) | exact hn265_0) (.int .i64 ((rd_T40 l0_0 ((rd_T82 t254 x5_2).f0)).f0))).trans hx265_1
          replace hx265_0 := (cell_far (p := ⟨gb264, 1, none⟩) (by first | (rw [add_block]; exact hn265_1) | (show (Addr.add _ _).block ≠ _; rw [add_block]; exact hn265_1) | exact hn265_1) (.int .i64 ((rd_T40 l0_0 ((rd_T82 t254 x5_2).f0)).f1))).trans hx265_0
          replace hx265_1 := (cell_far (p := ⟨gb264, 1, none⟩) (by first | (rw [add_block]; exact hn265_1) | (show (Addr.add _ _).block ≠ _; rw [add_block]; exact hn265_1) | exact hn265_1) (.int .i64 ((rd_T40 l0_0 ((rd_T82 t254 x5_2).f0)).f1))).trans hx265_1
          replace hx265_0 := (cell_far (p := ⟨gb264, 2, none⟩) (by first | (rw [add_block]; exact hn265_2) | (show (Addr.add _ _).block ≠ _; rw [add_block]; exact hn265_2) | exact hn265_2) (.int .i64 ((rd_T40 l0_0 ((rd_T82 t254 x5_2).f0)).f2))).trans hx265_0
          replace hx265_1 := (cell_far (p := ⟨gb264, 2, none⟩) (by first | (rw [add_block]; exact hn265_2) | (show (Addr.add _ _).block ≠ _; rw [add_block]; exact hn265_2) | exact hn265_2) (.int .i64 ((rd_T40 l0_0 ((rd_T82 t254 x5_2).f0)).f2))).trans hx265_1
          replace hx265_0 := (cell_far (p := ⟨gb264, 3, none⟩) (by first | (rw [add_block]; exact hn265_3) | (show (Addr.add _ _).block ≠ _; rw [add_block]; exact hn265_3) | exact hn265_3) (.int .i64 ((rd_T40 l0_0 ((rd_T82 t254 x5_2).f0)).f3))).trans hx265_0
          replace hx265_1 := (cell_far (p := ⟨gb264, 3, none⟩) (by first | (rw [add_block]; exact hn265_3) | (show (Addr.add _ _).block ≠ _; rw [add_block]; exact hn265_3) | exact hn265_3) (.int .i64 ((rd_T40 l0_0 ((rd_T82 t254 x5_2).f0)).f3))).trans hx265_1
          clear hn265_0
          clear hn265_1
          clear hn265_2
          clear hn265_3
          replace p265 := eq_true p265
          replace q265 := eq_true q265
          have hnb35 := NB264_253.out
          have hnc35 := NB253_264.out
          obtain ⟨hcz36_0, hcz36_1, hcz36_2, hcz36_3, hfz36_0, hfz36_1, hfz36_2, hfz36_3⟩ := ZC4 BK264.out
          go_wp2
          go_meet
          case rel => exact ⟨_, (false), ZE, H', ⟨by have := HK1.out; have := HK2.out; first | omega | exact Nat.le_refl _⟩, ⟨by (with_reducible repeat (first | apply ZY | apply ZX | apply ZZ)); exact Kd.R_mono (Kd.R_far (p := ⟨gb264, 3, none⟩) (Kd.R_far (p := ⟨gb264, 2, none⟩) (Kd.R_far (p := ⟨gb264, 1, none⟩) (Kd.R_far (p := ⟨gb264, 0, none⟩) (Kd.R_types HO_3.out BK264.out (by decide)) (fun _ hk => hk.2) (.int .i64 ((rd_T40 l0_0 ((rd_T82 t254 x5_2).f0)).f0))) (fun _ hk => hk.2) (.int .i64 ((rd_T40 l0_0 ((rd_T82 t254 x5_2).f0)).f1))) (fun _ hk => hk.2) (.int .i64 ((rd_T40 l0_0 ((rd_T82 t254 x5_2).f0)).f2))) (fun _ hk => hk.2) (.int .i64 ((rd_T40 l0_0 ((rd_T82 t254 x5_2).f0)).f3))) (fun _ hk => trivial)⟩, ⟨ZBF BK253.out NB253_264.out⟩, ⟨by (with_reducible repeat (first | refine ZR ?_ _ | refine ZS ?_ | refine ZT ?_ _)); refine blk_put (cs := #[.int .i64 ((rd_T40 l0_0 ((rd_T82 t254 x5_2).f0)).f0), .int .i64 ((rd_T40 l0_0 ((rd_T82 t254 x5_2).f0)).f1), .int .i64 ((rd_T40 l0_0 ((rd_T82 t254 x5_2).f0)).f2), .int .i64 0]) ?_ 3 _ rfl; (with_reducible repeat (first | refine ZR ?_ _ | refine ZS ?_ | refine ZT ?_ _)); refine blk_put (cs := #[.int .i64 ((rd_T40 l0_0 ((rd_T82 t254 x5_2).f0)).f0), .int .i64 ((rd_T40 l0_0 ((rd_T82 t254 x5_2).f0)).f1), .int .i64 0, .int .i64 0]) ?_ 2 _ rfl; (with_reducible repeat (first | refine ZR ?_ _ | refine ZS ?_ | refine ZT ?_ _)); refine blk_put (cs := #[.int .i64 ((rd_T40 l0_0 ((rd_T82 t254 x5_2).f0)).f0), .int .i64 0, .int .i64 0, .int .i64 0]) ?_ 1 _ rfl; (with_reducible repeat (first | refine ZR ?_ _ | refine ZS ?_ | refine ZT ?_ _)); refine blk_put (cs := #[.int .i64 0, .int .i64 0, .int .i64 0, .int .i64 0]) ?_ 0 _ rfl; (with_reducible repeat (first | refine ZR ?_ _ | refine ZS ?_ | refine ZT ?_ _)); exact BK264.out⟩, ⟨ZBB HB.out⟩⟩
         ·rw [if_neg c34] at H
          have c34b0 : (((rd_T40 l0_0 ((rd_T82 t254 x5_2).f0)).f0) == 6) = false := beq_eq_false_iff_ne.mpr c34
          have c34b1 : (((rd_T40 l0_0 ((rd_T82 t254 x5_2).f0)).f0) != 6) = true := bne_iff_ne.mpr c34
          have H' := ZM H
          clear H
          have p265 : 0 ≤ (x5_2 : Int) := ZOD
          have q265 : x5_2 < (t254.length : Int) := ZOD
          obtain ⟨ad265, e265, hx265_0, hx265_1⟩ := at_T82 (Kd.R_reads' HO_3.out).2.2 x5_2 p265 q265
          obtain rfl : ad262 = ad265 := (by injection e265)
          have hn265_0 : ad262.block ≠ gb264 := Kd.own_blk (Kd.R_ne HO_3.out BK264.out (by decide))
          have hn265_1 : ad262.block ≠ gb264 := Kd.own_blk (Kd.R_ne HO_3.out BK264.out (by decide))
          have hn265_2 : ad262.block ≠ gb264 := Kd.own_blk (Kd.R_ne HO_3.out BK264.out (by decide))
          have hn265_3 : ad262.block ≠ gb264 := Kd.own_blk (Kd.R_ne HO_3.out BK264.out (by decide))
          replace hx265_0 := (cell_far (p := ⟨gb264, 0, none⟩) (by first | (rw [add_block]; exact hn265_0) | (show (Addr.add _ _).block ≠ _; rw [add_block]; exact hn265_0) | exact hn265_0) (.int .i64 ((rd_T40 l0_0 ((rd_T82 t254 x5_2).f0)).f0))).trans hx265_0
          replace hx265_1 := (cell_far (p := ⟨gb264, 0, none⟩) (by first | (rw [add_block]; exact hn265_0) | (show (Addr.add _ _).block ≠ _; rw [add_block]; exact hn265_0) | exact hn265_0) (.int .i64 ((rd_T40 l0_0 ((rd_T82 t254 x5_2).f0)).f0))).trans hx265_1
          replace hx265_0 := (cell_far (p := ⟨gb264, 1, none⟩) (by first | (rw [add_block]; exact hn265_1) | (show (Addr.add _ _).block ≠ _; rw [add_block]; exact hn265_1) | exact hn265_1) (.int .i64 ((rd_T40 l0_0 ((rd_T82 t254 x5_2).f0)).f1))).trans hx265_0
          replace hx265_1 := (cell_far (p := ⟨gb264, 1, none⟩) (by first | (rw [add_block]; exact hn265_1) | (show (Addr.add _ _).block ≠ _; rw [add_block]; exact hn265_1) | exact hn265_1) (.int .i64 ((rd_T40 l0_0 ((rd_T82 t254 x5_2).f0)).f1))).trans hx265_1
          replace hx265_0 := (cell_far (p := ⟨gb264, 2, none⟩) (by first | (rw [add_block]; exact hn265_2) | (show (Addr.add _ _).block ≠ _; rw [add_block]; exact hn265_2) | exact hn265_2) (.int .i64 ((rd_T40 l0_0 ((rd_T82 t254 x5_2).f0)).f2))).trans hx265_0
          replace hx265_1 := (cell_far (p := ⟨gb264, 2, none⟩) (by first | (rw [add_block]; exact hn265_2) | (show (Addr.add _ _).block ≠ _; rw [add_block]; exact hn265_2) | exact hn265_2) (.int .i64 ((rd_T40 l0_0 ((rd_T82 t254 x5_2).f0)).f2))).trans hx265_1
          replace hx265_0 := (cell_far (p := ⟨gb264, 3, none⟩) (by first | (rw [add_block]; exact hn265_3) | (show (Addr.add _ _).block ≠ _; rw [add_block]; exact hn265_3) | exact hn265_3) (.int .i64 ((rd_T40 l0_0 ((rd_T82 t254 x5_2).f0)).f3))).trans hx265_0
          replace hx265_1 := (cell_far (p := ⟨gb264, 3, none⟩) (by first | (rw [add_block]; exact hn265_3) | (show (Addr.add _ _).block ≠ _; rw [add_block]; exact hn265_3) | exact hn265_3) (.int .i64 ((rd_T40 l0_0 ((rd_T82 t254 x5_2).f0)).f3))).trans hx265_1
          clear hn265_0
          clear hn265_1
          clear hn265_2
          clear hn265_3
          replace p265 := eq_true p265
          replace q265 := eq_true q265
          have hnb37 := NB264_253.out
          have hnc37 := NB253_264.out
          obtain ⟨hcz38_0, hcz38_1, hcz38_2, hcz38_3, hfz38_0, hfz38_1, hfz38_2, hfz38_3⟩ := ZC4 BK264.out
          go_wp2
          go_meet
          case rel => exact ⟨_, ((((rd_T40 l0_0 ((rd_T82 t254 x5_2).f0)).f0) != 7)), ZE, H', ⟨by have := HK1.out; have := HK2.out; first | omega | exact Nat.le_refl _⟩, ⟨by (with_reducible repeat (first | apply ZY | apply ZX | apply ZZ)); exact Kd.R_mono (Kd.R_far (p := ⟨gb264, 3, none⟩) (Kd.R_far (p := ⟨gb264, 2, none⟩) (Kd.R_far (p := ⟨gb264, 1, none⟩) (Kd.R_far (p := ⟨gb264, 0, none⟩) (Kd.R_types HO_3.out BK264.out (by decide)) (fun _ hk => hk.2) (.int .i64 ((rd_T40 l0_0 ((rd_T82 t254 x5_2).f0)).f0))) (fun _ hk => hk.2) (.int .i64 ((rd_T40 l0_0 ((rd_T82 t254 x5_2).f0)).f1))) (fun _ hk => hk.2) (.int .i64 ((rd_T40 l0_0 ((rd_T82 t254 x5_2).f0)).f2))) (fun _ hk => hk.2) (.int .i64 ((rd_T40 l0_0 ((rd_T82 t254 x5_2).f0)).f3))) (fun _ hk => trivial)⟩, ⟨ZBF BK253.out NB253_264.out⟩, ⟨by (with_reducible repeat (first | refine ZR ?_ _ | refine ZS ?_ | refine ZT ?_ _)); refine blk_put (cs := #[.int .i64 ((rd_T40 l0_0 ((rd_T82 t254 x5_2).f0)).f0), .int .i64 ((rd_T40 l0_0 ((rd_T82 t254 x5_2).f0)).f1), .int .i64 ((rd_T40 l0_0 ((rd_T82 t254 x5_2).f0)).f2), .int .i64 0]) ?_ 3 _ rfl; (with_reducible repeat (first | refine ZR ?_ _ | refine ZS ?_ | refine ZT ?_ _)); refine blk_put (cs := #[.int .i64 ((rd_T40 l0_0 ((rd_T82 t254 x5_2).f0)).f0), .int .i64 ((rd_T40 l0_0 ((rd_T82 t254 x5_2).f0)).f1), .int .i64 0, .int .i64 0]) ?_ 2 _ rfl; (with_reducible repeat (first | refine ZR ?_ _ | refine ZS ?_ | refine ZT ?_ _)); refine blk_put (cs := #[.int .i64 ((rd_T40 l0_0 ((rd_T82 t254 x5_2).f0)).f0), .int .i64 0, .int .i64 0, .int .i64 0]) ?_ 1 _ rfl; (with_reducible repeat (first | refine ZR ?_ _ | refine ZS ?_ | refine ZT ?_ _)); refine blk_put (cs := #[.int .i64 0, .int .i64 0, .int .i64 0, .int .i64 0]) ?_ 0 _ rfl; (with_reducible repeat (first | refine ZR ?_ _ | refine ZS ?_ | refine ZT ?_ _)); exact BK264.out⟩, ⟨ZBB HB.out⟩⟩
       case rest =>
        clear HC26
        try clear c6
        try clear c6b0
        try clear c7
        try clear c7b0
        try clear c8
        try clear c8b0
        try clear c8b1
        try clear c12
        try clear c12b0
        try clear c12b1
        try clear c22
        try clear c22b0
        try clear c23
        try clear c23b0
        try clear c24
        try clear c24b0
        try clear c25
        try clear c25b0
        try clear c33
        try clear c33b0
        try clear c33b1
        try clear c34
        try clear c34b0
        try clear c34b1
        try clear hcz36_0
        try clear hcz36_1
        try clear hcz36_2
        try clear hcz36_3
        try clear hcz38_0
        try clear hcz38_1
        try clear hcz38_2
        try clear hcz38_3
        try clear hcz4_0
        try clear hcz4_1
        try clear hfz36_0
        try clear hfz36_1
        try clear hfz36_2
        try clear hfz36_3
        try clear hfz38_0
        try clear hfz38_1
        try clear hfz38_2
        try clear hfz38_3
        try clear hfz4_0
        try clear hfz4_1
        try clear hx257_0
        try clear hx257_1
        try clear hx258_0
        try clear hx258_1
        try clear hx262_0
        try clear hx262_1
        try clear hx263_0
        try clear hx263_1
        try clear hx263_2
        try clear hx263_3
        try clear hx265_0
        try clear hx265_1
        try clear p257
        try clear p258
        try clear p262
        try clear p263
        try clear p265
        try clear q257
        try clear q258
        try clear q262
        try clear q263
        try clear q265
        obtain ⟨kq, x62_25, rfl, HA, HJ25, HO_3, BK253, BK264, HB⟩ := hcut
        cases kq with
        | zero => exact absurd HA.out (by simp [meanderref09_ports.j2])
        | succ kj25 =>
         have H := HA.out
         clear HA
         simp only [meanderref09_ports.j2] at H
         by_cases c39 : x62_25 = true
         ·subst c39
          have H1 : (meanderref09_ports.l1 kj25 t254 (wrap64 (x5_2 + 1)) l0_0 l0_1) = some r := by rw [if_pos rfl] at H; exact H
          clear H
          have H := H1
          clear H1
          have H' := ZM H
          clear H
          go_wp2
          go_roundg kj25
          case measure => have := HK1.out; have := HK2.out; have := HJ25.out; omega
          case rel => exact ⟨(wrap64 (x5_2 + 1)), ZE, H', ⟨by have := HK1.out; have := HK2.out; have := HJ25.out; omega⟩, ⟨ZRK HO_3.out⟩, ⟨ZBK BK253.out⟩, ⟨ZBB HB.out⟩⟩
         ·replace c39 := Bool.eq_false_iff.mpr c39
          subst c39
          have H1 : (if 0 ≤ x5_2 then (if x5_2 < (t254.length : Int) then ((meanderref08_Prev.f kj25 l0_0 l0_1 ((rd_T82 t254 x5_2).f0) ((rd_T82 t254 x5_2).f1)).bind fun t267 => (if 0 < (t267.length : Int) then (if 0 ≤ (rd t267 0) then (if (rd t267 0) < (l0_0.length : Int) then (if ((rd_T40 l0_0 (rd t267 0)).f0) = 5 then (meanderref09_ports.l1 kj25 t254 (wrap64 (x5_2 + 1)) l0_0 l0_1) else (some 15)) else (none)) else (none)) else (none))) else (none)) else (none)) = some r := by rw [if_neg (show ¬ (false = true) by decide)] at H; exact H
          clear H
          have H := H1
          clear H1
          by_cases c40 : 0 ≤ x5_2
          case neg =>
           rw [if_neg c40] at H
           exact absurd H (by simp)
          rw [if_pos c40] at H
          have c40b0 : decide (0 ≤ x5_2) = true := decide_eq_true c40
          clear c40
          by_cases c41 : x5_2 < (t254.length : Int)
          case neg =>
           rw [if_neg c41] at H
           exact absurd H (by simp)
          rw [if_pos c41] at H
          have c41b0 : decide (x5_2 < (t254.length : Int)) = true := decide_eq_true c41
          clear c41
          replace H := Option.bind_eq_some_iff.mp H
          obtain ⟨t267, A420, H⟩ := H
          replace H : (if 0 < (t267.length : Int) then (if 0 ≤ (rd t267 0) then (if (rd t267 0) < (l0_0.length : Int) then (if ((rd_T40 l0_0 (rd t267 0)).f0) = 5 then (meanderref09_ports.l1 kj25 t254 (wrap64 (x5_2 + 1)) l0_0 l0_1) else (some 15)) else (none)) else (none)) else (none)) = some r := H
          have A42 := ZM A420
          clear A420
          by_cases c43 : 0 < (t267.length : Int)
          case neg =>
           rw [if_neg c43] at H
           exact absurd H (by simp)
          rw [if_pos c43] at H
          have c43b0 : decide (0 < (t267.length : Int)) = true := decide_eq_true c43
          have c43b1 : decide (0 < t267.length) = true := decide_eq_true (by omega)
          clear c43
          by_cases c44 : 0 ≤ (rd t267 0)
          case neg =>
           rw [if_neg c44] at H
           exact absurd H (by simp)
          rw [if_pos c44] at H
          have c44b0 : decide (0 ≤ (rd t267 0)) = true := decide_eq_true c44
          clear c44
          by_cases c45 : (rd t267 0) < (l0_0.length : Int)
          case neg =>
           rw [if_neg c45] at H
           exact absurd H (by simp)
          rw [if_pos c45] at H
          have c45b0 : decide ((rd t267 0) < (l0_0.length : Int)) = true := decide_eq_true c45
          clear c45
          by_cases c46 : ((rd_T40 l0_0 (rd t267 0)).f0) = 5
          ·rw [if_pos c46] at H
           have c46b0 : (((rd_T40 l0_0 (rd t267 0)).f0) == 5) = true := beq_iff_eq.mpr c46
           have c46b1 : (((rd_T40 l0_0 (rd t267 0)).f0) != 5) = false := bne_eq_false_iff_eq.mpr c46
           clear c46
           have H' := ZM H
           clear H
           try go_wp2
           have n0_ := ZM (ZZ HO_3.out)
           have n1_ := ZM (ZS BK253.out)
           have n2_ := ZM (ZS BK264.out)
           have n3_ := ZM (ZP HB.out)
           clear HO_3
           clear BK253
           clear BK264
           clear HB
           have HO_3 := n0_
           have BK253 := n1_
           have BK264 := n2_
           have HB := n3_
           clear n0_ n1_ n2_ n3_
           have p266 : 0 ≤ (x5_2 : Int) := ZOD
           have q266 : x5_2 < (t254.length : Int) := ZOD
           obtain ⟨ad266, e266, hx266_0, hx266_1⟩ := at_T82 (Kd.R_reads' HO_3.out).2.2 x5_2 p266 q266
           obtain rfl : ad262 = ad266 := (by injection e266)
           replace p266 := eq_true p266
           replace q266 := eq_true q266
           refine start_ (n := 7) (S := fun w' => w'.cell? ⟨gb253, 0, none⟩ = some (.slice (some ad263) l0_0.length c0_0) ∧ w'.cell? ⟨gb253, 1, none⟩ = some (.slice A0_1 l0_1.length c0_1) ∧ w'.cell? (ad262.add ((x5_2).toNat * 2)) = some (.int .i64 ((rd_T82 t254 x5_2).f0)) ∧ w'.cell? ⟨(ad262.add ((x5_2).toNat * 2)).block, (ad262.add ((x5_2).toNat * 2)).off + 1, none⟩ = some (.int .i64 ((rd_T82 t254 x5_2).f1))) (ds := []) #[false, false, false, false, false, false, false] (by kernel_rfl) rfl rfl ⟨(ZG BK253.out 0).trans rfl, (ZG BK253.out 1).trans rfl, hx266_0, hx266_1⟩ (fun hHeld => ?_)
           generalize wc.drew = w47 at HO_3 BK253 BK264 HB hx266_0 hx266_1 hHeld ⊢
           refine ZPV (ZB 7 2) 1 64 ?_
           refine ZPV (ZB 7 6) 2 65 ?_
           refine ZPV (ZB 7 14) 3 66 ?_
           refine ZTV (ZB 7 15) hHeld 0 63 ?_
           refine ZTV (ZB 7 31) hHeld 4 67 ?_
           refine one_ (i := 5) (N := some 68) (ZB 7 63) rfl rfl (by kernel_rfl) (by decide) (fun K hK => ?_)
           refine goes_ Tryd.func47 (by kernel_rfl) rfl #[.agg #[.slice (some ad263) l0_0.length c0_0, .slice A0_1 l0_1.length c0_1], .agg #[.int .i64 ((rd_T82 t254 x5_2).f0), .int .i64 ((rd_T82 t254 x5_2).f1)]] (by rfl) rfl rfl ZH ?_
           with_reducible refine (meanderref08_Prev.calls kj25 _ _ l0_0 _ _ l0_1 ((rd_T82 t254 x5_2).f0) ((rd_T82 t254 x5_2).f1) t267 _ ?side1 ?side2 ?side3 ?side4 A42.out).mono ?_
           (case side1 => repeat (first | exact (Kd.C_below HR0_0.out HB.out) | (with_reducible refine Kd.C_alloc ?_ _) | (with_reducible refine Kd.C_drewN ?_ _) | (with_reducible refine Kd.C_drew ?_)))
           (case side2 => exact HC0_0.out)
           (case side3 => repeat (first | exact (Kd.C_below HR0_1.out HB.out) | (with_reducible refine Kd.C_alloc ?_ _) | (with_reducible refine Kd.C_drewN ?_ _) | (with_reducible refine Kd.C_drew ?_)))
           (case side4 => exact HC0_1.out)
           rintro e w48 ⟨v268, rfl, ho0, hb⟩
           have HS2_ := (hb.cell (ZC _ _ (hHeld.2.2.1))).trans (hHeld.2.2.1)
           have HS3_ := (hb.cell (ZC _ _ (hHeld.2.2.2))).trans (hHeld.2.2.2)
           refine ⟨_, rfl, ?_⟩
           have n0_ := ZM (Kd.R_below (ZRK HO_3.out) hb)
           have n1_ := ZM (Kd.R_lower ho0 (ZV (ZBB HB.out)))
           have n2_ := ZM (blk_below (ZBK BK253.out) hb)
           have n3_ := ZM (blk_below (ZBK BK264.out) hb)
           have n4_ := ZM (ZW (ZBB HB.out) hb)
           clear HO_3
           clear BK253
           clear BK264
           clear HB
           have HO_3 := n0_
           have HO269 := n1_
           have BK253 := n2_
           have BK264 := n3_
           have HB := n4_
           clear n0_ n1_ n2_ n3_ n4_
           (try clear hb)
           (try clear hb2)
           (try clear hk)
           (try clear hi)
           (try clear ho0)
           refine hK.out _ _ ⟨(ZG BK253.out 0).trans rfl, (ZG BK253.out 1).trans rfl, HS2_, HS3_⟩ (fun hHeld => ?_)
           clear hK K
           refine norm_ (a' := ?_) ?_ ?_
           rotate_left
           ·show Act.put _ (some 68) _ = _
            simp only [Act.put, ZI, ZJ, ZK, i64_w, i32_w]
            rfl
           refine ZPV (ZB 7 127) 6 7 ?_
           refine done_ (by kernel_rfl) ?_
           try go_wp2
           have n0_ := ZM (ZZ HO_3.out)
           have n1_ := ZM (ZZ HO269.out)
           have n2_ := ZM (ZS BK253.out)
           have n3_ := ZM (ZS BK264.out)
           have n4_ := ZM (ZP HB.out)
           clear HO_3
           clear HO269
           clear BK253
           clear BK264
           clear HB
           have HO_3 := n0_
           have HO269 := n1_
           have BK253 := n2_
           have BK264 := n3_
           have HB := n4_
           clear n0_ n1_ n2_ n3_ n4_
           obtain ⟨Ao50, co50, eo50⟩ := Kd.R_slice HO269.out
           (first | subst eo50 | (injection eo50 with f1_ f2_ f3_; have f4_ := f1_.symm; have f5_ := f3_.symm; clear f1_ f2_ f3_; subst f4_; subst f5_))
           have p270 : 0 ≤ (0 : Int) := (by omega)
           have q270 : 0 < (t267.length : Int) := ZOD
           obtain ⟨ad270, e270, hx270_0⟩ := Kd.at_int (Kd.R_reads' HO269.out).2.2 0 p270 q270
           cases e270
           have qi270 : (0 < t267.length) = True := eq_true (by omega)
           (try rw [show ((0 : Int)).toNat = 0 from rfl] at hx270_0)
           (try rw [Addr.add_zero'] at hx270_0)
           replace p270 := eq_true p270
           replace q270 := eq_true q270
           have p271 : 0 ≤ ((rd t267 0) : Int) := ZOD
           have q271 : (rd t267 0) < (l0_0.length : Int) := ZOD
           obtain ⟨ad271, e271, hx271_0, hx271_1, hx271_2, hx271_3⟩ := at_T40 HR0_0.out (rd t267 0) p271 q271
           have hw271_3 := hx271_3
           have hw271_2 := hx271_2
           have hw271_1 := hx271_1
           have hw271_0 := hx271_0
           obtain rfl : ad263 = ad271 := (by injection e271)
           replace hx271_0 := ZHX HB.out hx271_0
           replace hx271_1 := ZHX HB.out hx271_1
           replace hx271_2 := ZHX HB.out hx271_2
           replace hx271_3 := ZHX HB.out hx271_3
           replace p271 := eq_true p271
           replace q271 := eq_true q271
           refine start_ (n := 9) (S := fun w' => w'.cell? ⟨gb253, 0, none⟩ = some (.slice (some ad263) l0_0.length c0_0) ∧ w'.cell? ⟨gb253, 1, none⟩ = some (.slice A0_1 l0_1.length c0_1) ∧ w'.cell? ad270 = some (.int .i64 (rd t267 0)) ∧ w'.cell? (ad263.add (((rd t267 0)).toNat * 4)) = some (.int .i64 ((rd_T40 l0_0 (rd t267 0)).f0)) ∧ w'.cell? ⟨(ad263.add (((rd t267 0)).toNat * 4)).block, (ad263.add (((rd t267 0)).toNat * 4)).off + 1, none⟩ = some (.int .i64 ((rd_T40 l0_0 (rd t267 0)).f1)) ∧ w'.cell? ⟨(ad263.add (((rd t267 0)).toNat * 4)).block, (ad263.add (((rd t267 0)).toNat * 4)).off + 2, none⟩ = some (.int .i64 ((rd_T40 l0_0 (rd t267 0)).f2)) ∧ w'.cell? ⟨(ad263.add (((rd t267 0)).toNat * 4)).block, (ad263.add (((rd t267 0)).toNat * 4)).off + 3, none⟩ = some (.int .i64 ((rd_T40 l0_0 (rd t267 0)).f3))) (ds := []) #[false, false, false, false, false, false, false, false, false] (by kernel_rfl) rfl rfl ⟨(ZG BK253.out 0).trans rfl, (ZG BK253.out 1).trans rfl, hx270_0, ((HB.out.cell (ZC w _ hw271_0)).trans hw271_0), ((HB.out.cell (ZC w _ hw271_1)).trans hw271_1), ((HB.out.cell (ZC w _ hw271_2)).trans hw271_2), ((HB.out.cell (ZC w _ hw271_3)).trans hw271_3)⟩ (fun hHeld => ?_); refine with_tabW meanderref09_ports.tab13 meanderref09_ports.bits13 (fun HT_ HW_ => ?_)
           generalize w48.drew = w49 at HO_3 HO269 BK253 BK264 HB hx270_0 hx271_0 hx271_1 hx271_2 hx271_3 hHeld ⊢
           refine ZPU (ZB 9 1) HT_.out 0 69 ?_
           refine ZPU (ZB 9 5) HT_.out 2 71 ?_
           refine ZPU (ZB 9 13) HT_.out 3 72 ?_
           refine ZTU (ZB 9 15) HT_.out HW_.out hHeld 1 70 ?_
           refine ZTU (ZB 9 31) HT_.out HW_.out hHeld 4 73 ?_
           refine ZPU (ZB 9 63) HT_.out 5 74 ?_
           refine ZPU (ZB 9 127) HT_.out 6 75 ?_
           refine ZTU (ZB 9 255) HT_.out HW_.out hHeld 7 76 ?_
           refine ZPU (ZB 9 511) HT_.out 8 77 ?_
           refine done_ (done_of HT_.out (by kernel_rfl)) ?_
           try go_wp2
           go_roundg kj25
           case measure => have := HK1.out; have := HK2.out; have := HJ25.out; omega
           case rel => exact ⟨(wrap64 (x5_2 + 1)), ZE, H', ⟨by have := HK1.out; have := HK2.out; have := HJ25.out; omega⟩, ⟨ZRK HO_3.out⟩, ⟨ZBK BK253.out⟩, ⟨ZBB HB.out⟩⟩
          ·rw [if_neg c46] at H
           have c46b0 : (((rd_T40 l0_0 (rd t267 0)).f0) == 5) = false := beq_eq_false_iff_ne.mpr c46
           have c46b1 : (((rd_T40 l0_0 (rd t267 0)).f0) != 5) = true := bne_iff_ne.mpr c46
           obtain rfl := Option.some.inj H
           try go_wp2
           have n0_ := ZM (ZZ HO_3.out)
           have n1_ := ZM (ZS BK253.out)
           have n2_ := ZM (ZS BK264.out)
           have n3_ := ZM (ZP HB.out)
           clear HO_3
           clear BK253
           clear BK264
           clear HB
           have HO_3 := n0_
           have BK253 := n1_
           have BK264 := n2_
           have HB := n3_
           clear n0_ n1_ n2_ n3_
           have p266 : 0 ≤ (x5_2 : Int) := ZOD
           have q266 : x5_2 < (t254.length : Int) := ZOD
           obtain ⟨ad266, e266, hx266_0, hx266_1⟩ := at_T82 (Kd.R_reads' HO_3.out).2.2 x5_2 p266 q266
           obtain rfl : ad262 = ad266 := (by injection e266)
           replace p266 := eq_true p266
           replace q266 := eq_true q266
           refine start_ (n := 7) (S := fun w' => w'.cell? ⟨gb253, 0, none⟩ = some (.slice (some ad263) l0_0.length c0_0) ∧ w'.cell? ⟨gb253, 1, none⟩ = some (.slice A0_1 l0_1.length c0_1) ∧ w'.cell? (ad262.add ((x5_2).toNat * 2)) = some (.int .i64 ((rd_T82 t254 x5_2).f0)) ∧ w'.cell? ⟨(ad262.add ((x5_2).toNat * 2)).block, (ad262.add ((x5_2).toNat * 2)).off + 1, none⟩ = some (.int .i64 ((rd_T82 t254 x5_2).f1))) (ds := []) #[false, false, false, false, false, false, false] (by kernel_rfl) rfl rfl ⟨(ZG BK253.out 0).trans rfl, (ZG BK253.out 1).trans rfl, hx266_0, hx266_1⟩ (fun hHeld => ?_)
           generalize wc.drew = w51 at HO_3 BK253 BK264 HB hx266_0 hx266_1 hHeld ⊢
           refine ZPV (ZB 7 2) 1 64 ?_
           refine ZPV (ZB 7 6) 2 65 ?_
           refine ZPV (ZB 7 14) 3 66 ?_
           refine ZTV (ZB 7 15) hHeld 0 63 ?_
           refine ZTV (ZB 7 31) hHeld 4 67 ?_
           refine one_ (i := 5) (N := some 68) (ZB 7 63) rfl rfl (by kernel_rfl) (by decide) (fun K hK => ?_)
           refine goes_ Tryd.func47 (by kernel_rfl) rfl #[.agg #[.slice (some ad263) l0_0.length c0_0, .slice A0_1 l0_1.length c0_1], .agg #[.int .i64 ((rd_T82 t254 x5_2).f0), .int .i64 ((rd_T82 t254 x5_2).f1)]] (by rfl) rfl rfl ZH ?_
           with_reducible refine (meanderref08_Prev.calls kj25 _ _ l0_0 _ _ l0_1 ((rd_T82 t254 x5_2).f0) ((rd_T82 t254 x5_2).f1) t267 _ ?side1 ?side2 ?side3 ?side4 A42.out).mono ?_
           (case side1 => repeat (first | exact (Kd.C_below HR0_0.out HB.out) | (with_reducible refine Kd.C_alloc ?_ _) | (with_reducible refine Kd.C_drewN ?_ _) | (with_reducible refine Kd.C_drew ?_)))
           (case side2 => exact HC0_0.out)
           (case side3 => repeat (first | exact (Kd.C_below HR0_1.out HB.out) | (with_reducible refine Kd.C_alloc ?_ _) | (with_reducible refine Kd.C_drewN ?_ _) | (with_reducible refine Kd.C_drew ?_)))
           (case side4 => exact HC0_1.out)
           rintro e w52 ⟨v268, rfl, ho0, hb⟩
           have HS2_ := (hb.cell (ZC _ _ (hHeld.2.2.1))).trans (hHeld.2.2.1)
           have HS3_ := (hb.cell (ZC _ _ (hHeld.2.2.2))).trans (hHeld.2.2.2)
           refine ⟨_, rfl, ?_⟩
           have n0_ := ZM (Kd.R_below (ZRK HO_3.out) hb)
           have n1_ := ZM (Kd.R_lower ho0 (ZV (ZBB HB.out)))
           have n2_ := ZM (blk_below (ZBK BK253.out) hb)
           have n3_ := ZM (blk_below (ZBK BK264.out) hb)
           have n4_ := ZM (ZW (ZBB HB.out) hb)
           clear HO_3
           clear BK253
           clear BK264
           clear HB
           have HO_3 := n0_
           have HO269 := n1_
           have BK253 := n2_
           have BK264 := n3_
           have HB := n4_
           clear n0_ n1_ n2_ n3_ n4_
           (try clear hb)
           (try clear hb2)
           (try clear hk)
           (try clear hi)
           (try clear ho0)
           refine hK.out _ _ ⟨(ZG BK253.out 0).trans rfl, (ZG BK253.out 1).trans rfl, HS2_, HS3_⟩ (fun hHeld => ?_)
           clear hK K
           refine norm_ (a' := ?_) ?_ ?_
           rotate_left
           ·show Act.put _ (some 68) _ = _
            simp only [Act.put, ZI, ZJ, ZK, i64_w, i32_w]
            rfl
           refine ZPV (ZB 7 127) 6 7 ?_
           refine done_ (by kernel_rfl) ?_
           try go_wp2
           have n0_ := ZM (ZZ HO_3.out)
           have n1_ := ZM (ZZ HO269.out)
           have n2_ := ZM (ZS BK253.out)
           have n3_ := ZM (ZS BK264.out)
           have n4_ := ZM (ZP HB.out)
           clear HO_3
           clear HO269
           clear BK253
           clear BK264
           clear HB
           have HO_3 := n0_
           have HO269 := n1_
           have BK253 := n2_
           have BK264 := n3_
           have HB := n4_
           clear n0_ n1_ n2_ n3_ n4_
           obtain ⟨Ao54, co54, eo54⟩ := Kd.R_slice HO269.out
           (first | subst eo54 | (injection eo54 with f1_ f2_ f3_; have f4_ := f1_.symm; have f5_ := f3_.symm; clear f1_ f2_ f3_; subst f4_; subst f5_))
           have p270 : 0 ≤ (0 : Int) := (by omega)
           have q270 : 0 < (t267.length : Int) := ZOD
           obtain ⟨ad270, e270, hx270_0⟩ := Kd.at_int (Kd.R_reads' HO269.out).2.2 0 p270 q270
           cases e270
           have qi270 : (0 < t267.length) = True := eq_true (by omega)
           (try rw [show ((0 : Int)).toNat = 0 from rfl] at hx270_0)
           (try rw [Addr.add_zero'] at hx270_0)
           replace p270 := eq_true p270
           replace q270 := eq_true q270
           have p271 : 0 ≤ ((rd t267 0) : Int) := ZOD
           have q271 : (rd t267 0) < (l0_0.length : Int) := ZOD
           obtain ⟨ad271, e271, hx271_0, hx271_1, hx271_2, hx271_3⟩ := at_T40 HR0_0.out (rd t267 0) p271 q271
           have hw271_3 := hx271_3
           have hw271_2 := hx271_2
           have hw271_1 := hx271_1
           have hw271_0 := hx271_0
           obtain rfl : ad263 = ad271 := (by injection e271)
           replace hx271_0 := ZHX HB.out hx271_0
           replace hx271_1 := ZHX HB.out hx271_1
           replace hx271_2 := ZHX HB.out hx271_2
           replace hx271_3 := ZHX HB.out hx271_3
           replace p271 := eq_true p271
           replace q271 := eq_true q271
           refine start_ (n := 9) (S := fun w' => w'.cell? ⟨gb253, 0, none⟩ = some (.slice (some ad263) l0_0.length c0_0) ∧ w'.cell? ⟨gb253, 1, none⟩ = some (.slice A0_1 l0_1.length c0_1) ∧ w'.cell? ad270 = some (.int .i64 (rd t267 0)) ∧ w'.cell? (ad263.add (((rd t267 0)).toNat * 4)) = some (.int .i64 ((rd_T40 l0_0 (rd t267 0)).f0)) ∧ w'.cell? ⟨(ad263.add (((rd t267 0)).toNat * 4)).block, (ad263.add (((rd t267 0)).toNat * 4)).off + 1, none⟩ = some (.int .i64 ((rd_T40 l0_0 (rd t267 0)).f1)) ∧ w'.cell? ⟨(ad263.add (((rd t267 0)).toNat * 4)).block, (ad263.add (((rd t267 0)).toNat * 4)).off + 2, none⟩ = some (.int .i64 ((rd_T40 l0_0 (rd t267 0)).f2)) ∧ w'.cell? ⟨(ad263.add (((rd t267 0)).toNat * 4)).block, (ad263.add (((rd t267 0)).toNat * 4)).off + 3, none⟩ = some (.int .i64 ((rd_T40 l0_0 (rd t267 0)).f3))) (ds := []) #[false, false, false, false, false, false, false, false, false] (by kernel_rfl) rfl rfl ⟨(ZG BK253.out 0).trans rfl, (ZG BK253.out 1).trans rfl, hx270_0, ((HB.out.cell (ZC w _ hw271_0)).trans hw271_0), ((HB.out.cell (ZC w _ hw271_1)).trans hw271_1), ((HB.out.cell (ZC w _ hw271_2)).trans hw271_2), ((HB.out.cell (ZC w _ hw271_3)).trans hw271_3)⟩ (fun hHeld => ?_); refine with_tabW meanderref09_ports.tab13 meanderref09_ports.bits13 (fun HT_ HW_ => ?_)
           generalize w52.drew = w53 at HO_3 HO269 BK253 BK264 HB hx270_0 hx271_0 hx271_1 hx271_2 hx271_3 hHeld ⊢
           refine ZPU (ZB 9 1) HT_.out 0 69 ?_
           refine ZPU (ZB 9 5) HT_.out 2 71 ?_
           refine ZPU (ZB 9 13) HT_.out 3 72 ?_
           refine ZTU (ZB 9 15) HT_.out HW_.out hHeld 1 70 ?_
           refine ZTU (ZB 9 31) HT_.out HW_.out hHeld 4 73 ?_
           refine ZPU (ZB 9 63) HT_.out 5 74 ?_
           refine ZPU (ZB 9 127) HT_.out 6 75 ?_
           refine ZTU (ZB 9 255) HT_.out HW_.out hHeld 7 76 ?_
           refine ZPU (ZB 9 511) HT_.out 8 77 ?_
           refine done_ (done_of HT_.out (by kernel_rfl)) ?_
           try go_wp2
           go_ret
           exact ⟨ZEE, ZBB HB.out⟩
      ·rw [if_neg c22] at H
       have c22b0 : decide (x5_2 < (t254.length : Int)) = false := decide_eq_false c22
       clear c22
       obtain rfl := Option.some.inj H
       go_wp2
       go_ret
       exact ⟨ZEE, ZBB HB.out⟩

end Go.Proofs.YtbjjcolbomaodaaDoor.PTks
