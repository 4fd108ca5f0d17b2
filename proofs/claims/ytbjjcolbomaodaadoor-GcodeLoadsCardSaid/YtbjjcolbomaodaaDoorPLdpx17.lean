-- Laid by hprint.py of this repo: the kit's printer, and contracts by hand beside it. Not trusted: Lean checks it.
import Derived.Test.YtbjjcolbomaodaaDoorWZ
import Derived.Test.YtbjjcolbomaodaaDoorPLdpx0
import Derived.Test.YtbjjcolbomaodaaDoorPLdpx14
import Derived.Test.YtbjjcolbomaodaaDoorPLdpx16
namespace Go.Proofs.YtbjjcolbomaodaaDoor.PLdp
open Go.RowKit Go.Proofs.YtbjjcolbomaodaaDoorW.PrintWords Go.Proofs.YtbjjcolbomaodaaDoorW.PrintLast Go.Proofs.YtbjjcolbomaodaaDoorW.PrintMore
attribute [local go_sem] max2_int min2_int max_two min_two max_three min_three max_four min_four   -- for this text's walks alone
set_option linter.unusedVariables false
set_option linter.unusedSimpArgs false

/-! ### meanderref09_ports: function 29 -/
mutual
def meanderref09_ports.l0 : Nat → List (S82) → Int → List (S40) → List (S42) → Option (Int)
 | 0, _, _, _, _ => none
 | k + 1, x3, x4, x239000, x239001 => if x4 < (x3.length : Int) then (if 0 ≤ x4 then (if ((rd_T82 x3 x4).f1) = (-1) then (meanderref09_ports.l0 k x3 (wrap64 (x4 + 1)) x239000 x239001) else ((meanderref08_Prev.f k x239000 x239001 ((rd_T82 x3 x4).f0) ((rd_T82 x3 x4).f1)).bind fun t244 => (if (t244.length : Int) = 1 then (meanderref09_ports.l0 k x3 (wrap64 (x4 + 1)) x239000 x239001) else (some 13)))) else (none)) else (meanderref09_ports.l1 k x3 0 x239000 x239001)
def meanderref09_ports.l1 : Nat → List (S82) → Int → List (S40) → List (S42) → Option (Int)
 | 0, _, _, _, _ => none
 | k + 1, x3, x5, x239000, x239001 => if x5 < (x3.length : Int) then (if 0 ≤ x5 then (if 0 ≤ ((rd_T82 x3 x5).f0) then (if ((rd_T82 x3 x5).f0) < (x239000.length : Int) then (if ((rd_T82 x3 x5).f1) = (-1) then (meanderref09_ports.j2 k x3 x5 true x239000 x239001) else (if ((rd_T40 x239000 ((rd_T82 x3 x5).f0)).f0) = 6 then (meanderref09_ports.j2 k x3 x5 false x239000 x239001) else (meanderref09_ports.j2 k x3 x5 (((rd_T40 x239000 ((rd_T82 x3 x5).f0)).f0) != 7) x239000 x239001))) else (none)) else (none)) else (none)) else (some 0)
def meanderref09_ports.j2 : Nat → List (S82) → Int → Bool → List (S40) → List (S42) → Option (Int)
 | 0, _, _, _, _, _ => none
 | k + 1, x3, x5, x62, x239000, x239001 => if x62 = true then (meanderref09_ports.l1 k x3 (wrap64 (x5 + 1)) x239000 x239001) else (if 0 ≤ x5 then (if x5 < (x3.length : Int) then ((meanderref08_Prev.f k x239000 x239001 ((rd_T82 x3 x5).f0) ((rd_T82 x3 x5).f1)).bind fun t252 => (if 0 < (t252.length : Int) then (if 0 ≤ (rd t252 0) then (if (rd t252 0) < (x239000.length : Int) then (if ((rd_T40 x239000 (rd t252 0)).f0) = 5 then (meanderref09_ports.l1 k x3 (wrap64 (x5 + 1)) x239000 x239001) else (some 15)) else (none)) else (none)) else (none))) else (none)) else (none))
end
def meanderref09_ports.f (k : Nat) (l0_0 : List (S40)) (l0_1 : List (S42)) : Option (Int) := (meanderref08_Locs.f k l0_0 l0_1).bind fun t239 => (meanderref09_ports.l0 k t239 0 l0_0 l0_1)
theorem meanderref09_ports.mono_l : ∀ k, (∀ y0 y1 y2 y3, LeO (meanderref09_ports.l0 k y0 y1 y2 y3) (meanderref09_ports.l0 (k + 1) y0 y1 y2 y3)) ∧ (∀ y0 y1 y2 y3, LeO (meanderref09_ports.l1 k y0 y1 y2 y3) (meanderref09_ports.l1 (k + 1) y0 y1 y2 y3)) ∧ (∀ y0 y1 y2 y3 y4, LeO (meanderref09_ports.j2 k y0 y1 y2 y3 y4) (meanderref09_ports.j2 (k + 1) y0 y1 y2 y3 y4))
 | 0 => ⟨fun _ _ _ _ r h => by simp [meanderref09_ports.l0] at h, fun _ _ _ _ r h => by simp [meanderref09_ports.l1] at h, fun _ _ _ _ _ r h => by simp [meanderref09_ports.j2] at h⟩
 | k + 1 => by
  obtain ⟨ih0, ih1, ih2⟩ := meanderref09_ports.mono_l k
  refine ⟨?_, ?_, ?_⟩
  ·intro y0 y1 y2 y3
   unfold meanderref09_ports.l0
   repeat' first
   | (with_reducible exact ih0 _ _ _ _)
   | (with_reducible exact ih1 _ _ _ _)
   | (with_reducible exact ih2 _ _ _ _ _)
   | (with_reducible exact meanderref08_Locs.mono _ _ _)
   | (with_reducible exact meanderref08_Prev.mono _ _ _ _ _)
   | (with_reducible exact LeO.refl _)
   | (with_reducible exact LeO.none _)
   | (with_reducible refine LeO.ite ?_ ?_)
   | (with_reducible refine LeO.bind ?_ (fun _ => ?_))
   | exact ih0 _ _ _ _
   | exact ih1 _ _ _ _
   | exact ih2 _ _ _ _ _
   | exact meanderref08_Locs.mono _ _ _
   | exact meanderref08_Prev.mono _ _ _ _ _
   | exact LeO.none _
   | refine LeO.ite ?_ ?_
   | refine LeO.bind ?_ (fun _ => ?_)
  ·intro y0 y1 y2 y3
   unfold meanderref09_ports.l1
   repeat' first
   | (with_reducible exact ih0 _ _ _ _)
   | (with_reducible exact ih1 _ _ _ _)
   | (with_reducible exact ih2 _ _ _ _ _)
   | (with_reducible exact meanderref08_Locs.mono _ _ _)
   | (with_reducible exact meanderref08_Prev.mono _ _ _ _ _)
   | (with_reducible exact LeO.refl _)
   | (with_reducible exact LeO.none _)
   | (with_reducible refine LeO.ite ?_ ?_)
   | (with_reducible refine LeO.bind ?_ (fun _ => ?_))
   | exact ih0 _ _ _ _
   | exact ih1 _ _ _ _
   | exact ih2 _ _ _ _ _
   | exact meanderref08_Locs.mono _ _ _
   | exact meanderref08_Prev.mono _ _ _ _ _
   | exact LeO.none _
   | refine LeO.ite ?_ ?_
   | refine LeO.bind ?_ (fun _ => ?_)
  ·intro y0 y1 y2 y3 y4
   unfold meanderref09_ports.j2
   repeat' first
   | (with_reducible exact ih0 _ _ _ _)
   | (with_reducible exact ih1 _ _ _ _)
   | (with_reducible exact ih2 _ _ _ _ _)
   | (with_reducible exact meanderref08_Locs.mono _ _ _)
   | (with_reducible exact meanderref08_Prev.mono _ _ _ _ _)
   | (with_reducible exact LeO.refl _)
   | (with_reducible exact LeO.none _)
   | (with_reducible refine LeO.ite ?_ ?_)
   | (with_reducible refine LeO.bind ?_ (fun _ => ?_))
   | exact ih0 _ _ _ _
   | exact ih1 _ _ _ _
   | exact ih2 _ _ _ _ _
   | exact meanderref08_Locs.mono _ _ _
   | exact meanderref08_Prev.mono _ _ _ _ _
   | exact LeO.none _
   | refine LeO.ite ?_ ?_
   | refine LeO.bind ?_ (fun _ => ?_)
theorem meanderref09_ports.mono : ∀ a0 a1 k, LeO (meanderref09_ports.f k a0 a1) (meanderref09_ports.f (k + 1) a0 a1) := by
 intro a0 a1 k
 obtain ⟨ih0, ih1, ih2⟩ := meanderref09_ports.mono_l k
 unfold meanderref09_ports.f
 repeat' first
   | (with_reducible exact ih0 _ _ _ _)
   | (with_reducible exact ih1 _ _ _ _)
   | (with_reducible exact ih2 _ _ _ _ _)
   | (with_reducible exact meanderref08_Locs.mono _ _ _)
   | (with_reducible exact meanderref08_Prev.mono _ _ _ _ _)
   | (with_reducible exact LeO.refl _)
   | (with_reducible exact LeO.none _)
   | (with_reducible refine LeO.ite ?_ ?_)
   | (with_reducible refine LeO.bind ?_ (fun _ => ?_))
   | exact ih0 _ _ _ _
   | exact ih1 _ _ _ _
   | exact ih2 _ _ _ _ _
   | exact meanderref08_Locs.mono _ _ _
   | exact meanderref08_Prev.mono _ _ _ _ _
   | exact LeO.none _
   | refine LeO.ite ?_ ?_
   | refine LeO.bind ?_ (fun _ => ?_)
def meanderref09_ports.T5 : Bool × List (List Nat × List Nat) := (true, [([], []), ([], []), ([0, 1], [0, 1]), ([2], [2]), ([3], [3]), ([4], [4]), ([5], [5]), ([6], [6]), ([6], [6]), ([6], [6]), ([8, 9, 6], [6, 8, 9]), ([10, 6], [6, 10]), ([7, 11, 6, 6], [6, 7, 11]), ([12, 6], [6, 12]), ([13, 6], [6, 13]), ([6, 14], [6, 14])])
def meanderref09_ports.B5 : List Nat := [0, 0, 3, 7, 15, 31, 63, 127, 127, 127, 895, 1919, 4095, 8191, 16383, 32767]
theorem meanderref09_ports.tab5 : rtab .any (opsOf Tryd.f29 5) = meanderref09_ports.T5 := by kernel_rfl
theorem meanderref09_ports.bits5 : waitsOk meanderref09_ports.T5.2 meanderref09_ports.B5 = true := by kernel_rfl
def meanderref09_ports.T10 : Bool × List (List Nat × List Nat) := (true, [([], []), ([0], [0]), ([], []), ([], []), ([2, 3], [2, 3]), ([4], [4]), ([5], [5]), ([1, 6], [1, 6]), ([7], [7]), ([], []), ([9, 8, 0, 1, 2, 3, 4, 5, 6, 7, 8, 9], [8, 9])])
def meanderref09_ports.B10 : List Nat := [0, 1, 0, 0, 12, 28, 60, 127, 255, 0, 1023]
theorem meanderref09_ports.tab10 : rtab .any (opsOf Tryd.f29 10) = meanderref09_ports.T10 := by kernel_rfl
theorem meanderref09_ports.bits10 : waitsOk meanderref09_ports.T10.2 meanderref09_ports.B10 = true := by kernel_rfl
def meanderref09_ports.T13 : Bool × List (List Nat × List Nat) := (true, [([], []), ([0], [0]), ([], []), ([2], [2]), ([3], [3]), ([1, 4], [1, 4]), ([5], [5]), ([6], [6]), ([7], [7])])
def meanderref09_ports.B13 : List Nat := [0, 1, 0, 4, 12, 31, 63, 127, 255]
theorem meanderref09_ports.tab13 : rtab .any (opsOf Tryd.f29 13) = meanderref09_ports.T13 := by kernel_rfl
theorem meanderref09_ports.bits13 : waitsOk meanderref09_ports.T13.2 meanderref09_ports.B13 = true := by kernel_rfl
set_option maxHeartbeats 8000000 in
set_option maxRecDepth 100000 in
theorem meanderref09_ports.calls (k : Nat) (A0_0 : Option Addr) (c0_0 : Nat) (l0_0 : List (S40)) (A0_1 : Option Addr) (c0_1 : Nat) (l0_1 : List (S42)) (r : Int) (w : World) (hr0_0 : Kd.C k40 w A0_0 l0_0.length l0_0) (hc0_0 : l0_0.length ≤ c0_0) (hr0_1 : Kd.C k42 w A0_1 l0_1.length l0_1) (hc0_1 : l0_1.length ≤ c0_1) (h : meanderref09_ports.f k l0_0 l0_1 = some r) :
  Calls Tryd.prog 29 #[.agg #[.slice A0_0 l0_0.length c0_0, .slice A0_1 l0_1.length c0_1]] w fun e w' => e = .returned (.int .i64 r) ∧ Below w.heap.size w w' := by
 have hu27 := Tryd.underlying27
 have hu82 := Tryd.underlying82
 have hu40 := Tryd.underlying40
 have HR0_0 := ZM hr0_0
 have HC0_0 := ZM hc0_0
 clear hr0_0 hc0_0
 have HR0_1 := ZM hr0_1
 have HC0_1 := ZM hc0_1
 clear hr0_1 hc0_1
 have HB := ZM (Below.refl w.heap.size w)
 have H : ((meanderref08_Locs.f k l0_0 l0_1).bind fun t239 => (meanderref09_ports.l0 k t239 0 l0_0 l0_1)) = some r := h
 clear h
 replace H := Option.bind_eq_some_iff.mp H
 obtain ⟨t239, A20, H⟩ := H
 replace H : (meanderref09_ports.l0 k t239 0 l0_0 l0_1) = some r := H
 have A2 := ZM A20
 clear A20
 have H' := ZM H
 clear H
 go_enter Tryd.func29, Tryd.ntmps29
 go_wp2_with (first | ((with_reducible refine gate_dst (N := 1) rfl ?_); (try (refine gate_guard (by rfl) ?_; dsimp only)); refine box_event ?hg (N := 1) ?hd (cs := #[.slice A0_0 l0_0.length c0_0, .slice A0_1 l0_1.length c0_1]) (t := 27) ?hr ?_; (case hd => rfl); (case hg => rfl); (case hr => first | (go_simp; done) | (go_simp; rfl)); intro gb238 hg w3 hbox hb; have n0_ := ZM (ZW (ZBB HB.out) hb); have n1_ := ZM (hbox); have n2_ := ZM ((by rw [hg]; exact (ZV (ZBB HB.out)) : w.heap.size ≤ gb238)); have n3_ := ZM ((by rw [hg]; exact (ZV (ZBB HB.out)) : w.heap.size ≤ gb238)); clear HB; have HB := n0_; have BK238 := n1_; have GW238 := n2_; have GE238 := n3_; clear n0_ n1_ n2_ n3_; clear hb hbox hg; have hcz4_0 : w3.cell? ⟨gb238, 0, none⟩ = some (.slice A0_0 l0_0.length c0_0) := (ZG BK238.out 0).trans rfl; have hcz4_1 : w3.cell? ⟨gb238, 1, none⟩ = some (.slice A0_1 l0_1.length c0_1) := (ZG BK238.out 1).trans rfl; have hfz4_0 := ZF BK238.out 0; have hfz4_1 := ZF BK238.out 1) | ((with_reducible refine gate_callee (f := 46) rfl ?_); refine goesL_ (some 9) rfl rfl Tryd.func46 (by kernel_rfl) rfl #[.agg #[.slice A0_0 l0_0.length c0_0, .slice A0_1 l0_1.length c0_1]] rfl ZH ?_; (with_reducible refine (meanderref08_Locs.calls k _ _ l0_0 _ _ l0_1 t239 _ ?side1 ?side2 ?side3 ?side4 A2.out).mono ?_); (case side1 => repeat (first | exact (Kd.C_below HR0_0.out HB.out) | (with_reducible refine Kd.C_alloc ?_ _) | (with_reducible refine Kd.C_drewN ?_ _) | (with_reducible refine Kd.C_drew ?_))); (case side2 => exact HC0_0.out); (case side3 => repeat (first | exact (Kd.C_below HR0_1.out HB.out) | (with_reducible refine Kd.C_alloc ?_ _) | (with_reducible refine Kd.C_drewN ?_ _) | (with_reducible refine Kd.C_drew ?_))); (case side4 => exact HC0_1.out); rintro e w5 ⟨v240, rfl, ho0, hb⟩; refine ⟨_, rfl, ?_⟩; have n0_ := ZM (Kd.R_lower ho0 (ZV (ZBB HB.out))); have n1_ := ZM (blk_below (g := gb238) (o := .cells #[.slice A0_0 l0_0.length c0_0, .slice A0_1 l0_1.length c0_1] 27 (0, 0)) (ZBK BK238.out) hb); have n2_ := ZM (ZW (ZBB HB.out) hb); clear BK238; clear HB; have HO241 := n0_; have BK238 := n1_; have HB := n2_; clear n0_ n1_ n2_; (try clear hb); (try clear hb2); (try clear hk); (try clear hi); (try clear ho0)))
 go_loopg [4] k (fun kq v4 w' => ∃ (x4_1 : Int), v4 = .int .i64 x4_1 ∧ Aside0 (meanderref09_ports.l0 kq t239 x4_1 l0_0 l0_1 = some r) ∧ Aside0 (kq ≤ k) ∧ Aside0 (Kd.R k82 82 w' w.heap.size (fun _ => True) v240 t239) ∧ Aside0 (w'.heap[gb238]? = some (.cells #[(.slice A0_0 l0_0.length c0_0), (.slice A0_1 l0_1.length c0_1)] 27 (0, 0))) ∧ Aside0 (Below w.heap.size w w'))
 case atStart => exact ⟨(0), (by first | rfl | (simp; done) | (simp [*]; done)), H', ⟨Nat.le_refl _⟩, ⟨ZRK HO241.out⟩, ⟨ZBK BK238.out⟩, ⟨ZBB HB.out⟩⟩
 case round =>
  clear H'
  try clear hcz4_0
  try clear hcz4_1
  try clear hfz4_0
  try clear hfz4_1
  obtain ⟨x4_1, rfl, HA, HK1, HO_3, BK238, HB⟩ := hrel
  cases gk with
  | zero => exact absurd HA.out (by simp [meanderref09_ports.l0])
  | succ k1 =>
   have H := HA.out
   clear HA
   simp only [meanderref09_ports.l0] at H
   by_cases c6 : x4_1 < (t239.length : Int)
   ·rw [if_pos c6] at H
    have c6b0 : decide (x4_1 < (t239.length : Int)) = true := decide_eq_true c6
    clear c6
    by_cases c7 : 0 ≤ x4_1
    case neg =>
     rw [if_neg c7] at H
     exact absurd H (by simp)
    rw [if_pos c7] at H
    have c7b0 : decide (0 ≤ x4_1) = true := decide_eq_true c7
    clear c7
    by_cases c8 : ((rd_T82 t239 x4_1).f1) = (-1)
    ·rw [if_pos c8] at H
     have c8b0 : (((rd_T82 t239 x4_1).f1) == (-1)) = true := beq_iff_eq.mpr c8
     have c8b1 : (((rd_T82 t239 x4_1).f1) != (-1)) = false := bne_eq_false_iff_eq.mpr c8
     clear c8
     have H' := ZM H
     clear H
     obtain ⟨Ao9, co9, eo9⟩ := Kd.R_slice HO_3.out
     subst eo9
     try go_wp2
     have n0_ := ZM (ZZ HO_3.out)
     have n1_ := ZM (ZS BK238.out)
     have n2_ := ZM (ZP HB.out)
     clear HO_3
     clear BK238
     clear HB
     have HO_3 := n0_
     have BK238 := n1_
     have HB := n2_
     clear n0_ n1_ n2_
     have p242 : 0 ≤ (x4_1 : Int) := ZOD
     have q242 : x4_1 < (t239.length : Int) := ZOD
     obtain ⟨ad242, e242, hx242_0, hx242_1⟩ := at_T82 (Kd.R_reads' HO_3.out).2.2 x4_1 p242 q242
     cases e242
     replace p242 := eq_true p242
     replace q242 := eq_true q242
     refine start_ (n := 16) (S := fun w' => w'.cell? (ad242.add ((x4_1).toNat * 2)) = some (.int .i64 ((rd_T82 t239 x4_1).f0)) ∧ w'.cell? ⟨(ad242.add ((x4_1).toNat * 2)).block, (ad242.add ((x4_1).toNat * 2)).off + 1, none⟩ = some (.int .i64 ((rd_T82 t239 x4_1).f1))) (ds := []) #[false, false, false, false, false, false, false, false, false, false, false, false, false, false, false, false] (by kernel_rfl) rfl rfl ⟨hx242_0, hx242_1⟩ (fun hHeld => ?_); refine with_tabW meanderref09_ports.tab5 meanderref09_ports.bits5 (fun HT_ HW_ => ?_)
     generalize wr.drew = w10 at HO_3 BK238 HB hx242_0 hx242_1 hHeld ⊢
     refine pure_ (i := 0) (N := some 16) (v := ?_) (a' := ?_) (ZB 16 1) rfl rfl (any_of HT_.out (by kernel_rfl)) (fun _ _ _ h => h) (Or.inl ⟨by rfl, ?_⟩) ?_ ?_
     rotate_left
     ·intro w'; go_simp; with_reducible rfl
     rotate_left
     ·simp only [Act.put, ZI, ZJ, ZK, i64_w, i32_w]; rfl
     refine pure_ (i := 1) (N := some 17) (v := ?_) (a' := ?_) (ZB 16 3) rfl rfl (any_of HT_.out (by kernel_rfl)) (fun _ _ _ h => h) (Or.inl ⟨by rfl, ?_⟩) ?_ ?_
     rotate_left
     ·intro w'; go_simp; with_reducible rfl
     rotate_left
     ·simp only [Act.put, ZI, ZJ, ZK, i64_w, i32_w]; rfl
     refine pure_ (i := 2) (N := some 18) (v := ?_) (a' := ?_) (ZB 16 7) rfl rfl (any_of HT_.out (by kernel_rfl)) (fun _ _ _ h => h) (Or.inl ⟨by rfl, ?_⟩) ?_ ?_
     rotate_left
     ·intro w'; go_simp; with_reducible rfl
     rotate_left
     ·simp only [Act.put, ZI, ZJ, ZK, i64_w, i32_w]; rfl
     refine pure_ (i := 3) (N := some 19) (v := ?_) (a' := ?_) (ZB 16 15) rfl rfl (any_of HT_.out (by kernel_rfl)) (fun _ _ _ h => h) (Or.inl ⟨by rfl, ?_⟩) ?_ ?_
     rotate_left
     ·intro w'; go_simp; with_reducible rfl
     rotate_left
     ·simp only [Act.put, ZI, ZJ, ZK, i64_w, i32_w]; rfl
     refine take_ (i := 4) (N := some 20) (v := ?_) (a' := ?_) (ZB 16 31) rfl rfl (take_ofW HT_.out HW_.out (by kernel_rfl)) (fun _ _ _ h => h) (Or.inl ⟨by rfl, ?_⟩) hHeld ?_ ?_
     rotate_left
     ·rintro w' ⟨s0, s1⟩
      go_simp
      with_reducible rfl
     rotate_left
     ·simp only [Act.put, ZI, ZJ, ZK, i64_w, i32_w]; rfl
     refine pure_ (i := 5) (N := some 21) (v := ?_) (a' := ?_) (ZB 16 63) rfl rfl (any_of HT_.out (by kernel_rfl)) (fun _ _ _ h => h) (Or.inl ⟨by rfl, ?_⟩) ?_ ?_
     rotate_left
     ·intro w'; go_simp; with_reducible rfl
     rotate_left
     ·simp only [Act.put, ZI, ZJ, ZK, i64_w, i32_w]; rfl
     refine pure_ (i := 6) (N := some 22) (v := ?_) (a' := ?_) (ZB 16 127) rfl rfl (any_of HT_.out (by kernel_rfl)) (fun _ _ _ h => h) (Or.inl ⟨by rfl, ?_⟩) ?_ ?_
     rotate_left
     ·intro w'; go_simp; with_reducible rfl
     rotate_left
     ·simp only [Act.put, ZI, ZJ, ZK, i64_w, i32_w]; rfl
     refine pure_ (i := 7) (N := some 23) (v := undef) (a' := ?_) (ZB 16 255) rfl rfl (any_of HT_.out (by kernel_rfl)) (fun _ _ _ h => h) (Or.inr ⟨by rfl, rfl⟩) ?_ ?_
     rotate_left
     ·simp only [Act.put, ZI, ZJ, ZK, i64_w, i32_w]; rfl
     refine pure_ (i := 8) (N := some 24) (v := undef) (a' := ?_) (ZB 16 511) rfl rfl (any_of HT_.out (by kernel_rfl)) (fun _ _ _ h => h) (Or.inr ⟨by rfl, rfl⟩) ?_ ?_
     rotate_left
     ·simp only [Act.put, ZI, ZJ, ZK, i64_w, i32_w]; rfl
     refine pure_ (i := 9) (N := some 25) (v := undef) (a' := ?_) (ZB 16 1023) rfl rfl (any_of HT_.out (by kernel_rfl)) (fun _ _ _ h => h) (Or.inr ⟨by rfl, rfl⟩) ?_ ?_
     rotate_left
     ·simp only [Act.put, ZI, ZJ, ZK, i64_w, i32_w]; rfl
     refine pure_ (i := 10) (N := some 26) (v := undef) (a' := ?_) (ZB 16 2047) rfl rfl (any_of HT_.out (by kernel_rfl)) (fun _ _ _ h => h) (Or.inr ⟨by rfl, rfl⟩) ?_ ?_
     rotate_left
     ·simp only [Act.put, ZI, ZJ, ZK, i64_w, i32_w]; rfl
     refine pure_ (i := 11) (N := some 27) (v := undef) (a' := ?_) (ZB 16 4095) rfl rfl (any_of HT_.out (by kernel_rfl)) (fun _ _ _ h => h) (Or.inr ⟨by rfl, rfl⟩) ?_ ?_
     rotate_left
     ·simp only [Act.put, ZI, ZJ, ZK, i64_w, i32_w]; rfl
     refine pure_ (i := 12) (N := some 28) (v := undef) (a' := ?_) (ZB 16 8191) rfl rfl (any_of HT_.out (by kernel_rfl)) (fun _ _ _ h => h) (Or.inr ⟨by rfl, rfl⟩) ?_ ?_
     rotate_left
     ·simp only [Act.put, ZI, ZJ, ZK, i64_w, i32_w]; rfl
     refine pure_ (i := 13) (N := some 29) (v := undef) (a' := ?_) (ZB 16 16383) rfl rfl (any_of HT_.out (by kernel_rfl)) (fun _ _ _ h => h) (Or.inr ⟨by rfl, rfl⟩) ?_ ?_
     rotate_left
     ·simp only [Act.put, ZI, ZJ, ZK, i64_w, i32_w]; rfl
     refine pure_ (i := 14) (N := some 30) (v := undef) (a' := ?_) (ZB 16 32767) rfl rfl (any_of HT_.out (by kernel_rfl)) (fun _ _ _ h => h) (Or.inr ⟨by rfl, rfl⟩) ?_ ?_
     rotate_left
     ·simp only [Act.put, ZI, ZJ, ZK, i64_w, i32_w]; rfl
     refine pure_ (i := 15) (N := some 31) (v := ?_) (a' := ?_) (ZB 16 65535) rfl rfl (any_of HT_.out (by kernel_rfl)) (fun _ _ _ h => h) (Or.inl ⟨by rfl, ?_⟩) ?_ ?_
     rotate_left
     ·intro w'; go_simp; with_reducible rfl
     rotate_left
     ·simp only [Act.put, ZI, ZJ, ZK, i64_w, i32_w]; rfl
     refine done_ (done_of HT_.out (by kernel_rfl)) ?_
     try go_wp2
     go_roundg k1
     case measure => have := HK1.out; omega
     case rel => exact ⟨(wrap64 (x4_1 + 1)), (by first | rfl | (simp; done) | (simp [*]; done)), H', ⟨by have := HK1.out; omega⟩, ⟨ZRK HO_3.out⟩, ⟨ZBK BK238.out⟩, ⟨ZBB HB.out⟩⟩
    ·rw [if_neg c8] at H
     have c8b0 : (((rd_T82 t239 x4_1).f1) == (-1)) = false := beq_eq_false_iff_ne.mpr c8
     have c8b1 : (((rd_T82 t239 x4_1).f1) != (-1)) = true := bne_iff_ne.mpr c8
     replace H := Option.bind_eq_some_iff.mp H
     obtain ⟨t244, A110, H⟩ := H
     replace H : (if (t244.length : Int) = 1 then (meanderref09_ports.l0 k1 t239 (wrap64 (x4_1 + 1)) l0_0 l0_1) else (some 13)) = some r := H
     have A11 := ZM A110
     clear A110
     by_cases c12 : (t244.length : Int) = 1
     ·rw [if_pos c12] at H
      have c12b0 : ((t244.length : Int) == 1) = true := beq_iff_eq.mpr c12
      have c12b1 : ((t244.length : Int) != 1) = false := bne_eq_false_iff_eq.mpr c12
      clear c12
      have H' := ZM H
      clear H
      obtain ⟨Ao13, co13, eo13⟩ := Kd.R_slice HO_3.out
      subst eo13
      try go_wp2
      have n0_ := ZM (ZZ HO_3.out)
      have n1_ := ZM (ZS BK238.out)
      have n2_ := ZM (ZP HB.out)
      clear HO_3
      clear BK238
      clear HB
      have HO_3 := n0_
      have BK238 := n1_
      have HB := n2_
      clear n0_ n1_ n2_
      have p242 : 0 ≤ (x4_1 : Int) := ZOD
      have q242 : x4_1 < (t239.length : Int) := ZOD
      obtain ⟨ad242, e242, hx242_0, hx242_1⟩ := at_T82 (Kd.R_reads' HO_3.out).2.2 x4_1 p242 q242
      cases e242
      replace p242 := eq_true p242
      replace q242 := eq_true q242
      have p243 : 0 ≤ (x4_1 : Int) := ZOD
      have q243 : x4_1 < (t239.length : Int) := ZOD
      obtain ⟨ad243, e243, hx243_0, hx243_1⟩ := at_T82 (Kd.R_reads' HO_3.out).2.2 x4_1 p243 q243
      obtain rfl : ad242 = ad243 := (by injection e243)
      replace p243 := eq_true p243
      replace q243 := eq_true q243
      refine start_ (n := 16) (S := fun w' => w'.cell? ⟨gb238, 0, none⟩ = some (.slice A0_0 l0_0.length c0_0) ∧ w'.cell? ⟨gb238, 1, none⟩ = some (.slice A0_1 l0_1.length c0_1) ∧ w'.cell? (ad242.add ((x4_1).toNat * 2)) = some (.int .i64 ((rd_T82 t239 x4_1).f0)) ∧ w'.cell? ⟨(ad242.add ((x4_1).toNat * 2)).block, (ad242.add ((x4_1).toNat * 2)).off + 1, none⟩ = some (.int .i64 ((rd_T82 t239 x4_1).f1)) ∧ w'.cell? (ad242.add ((x4_1).toNat * 2)) = some (.int .i64 ((rd_T82 t239 x4_1).f0)) ∧ w'.cell? ⟨(ad242.add ((x4_1).toNat * 2)).block, (ad242.add ((x4_1).toNat * 2)).off + 1, none⟩ = some (.int .i64 ((rd_T82 t239 x4_1).f1))) (ds := []) #[false, false, false, false, false, false, false, false, false, false, false, false, false, false, false, false] (by kernel_rfl) rfl rfl ⟨(ZG BK238.out 0).trans rfl, (ZG BK238.out 1).trans rfl, hx242_0, hx242_1, hx243_0, hx243_1⟩ (fun hHeld => ?_); refine with_tabW meanderref09_ports.tab5 meanderref09_ports.bits5 (fun HT_ HW_ => ?_)
      generalize wr.drew = w14 at HO_3 BK238 HB hx242_0 hx242_1 hx243_0 hx243_1 hHeld ⊢
      refine pure_ (i := 0) (N := some 16) (v := ?_) (a' := ?_) (ZB 16 1) rfl rfl (any_of HT_.out (by kernel_rfl)) (fun _ _ _ h => h) (Or.inl ⟨by rfl, ?_⟩) ?_ ?_
      rotate_left
      ·intro w'; go_simp; with_reducible rfl
      rotate_left
      ·simp only [Act.put, ZI, ZJ, ZK, i64_w, i32_w]; rfl
      refine pure_ (i := 1) (N := some 17) (v := ?_) (a' := ?_) (ZB 16 3) rfl rfl (any_of HT_.out (by kernel_rfl)) (fun _ _ _ h => h) (Or.inl ⟨by rfl, ?_⟩) ?_ ?_
      rotate_left
      ·intro w'; go_simp; with_reducible rfl
      rotate_left
      ·simp only [Act.put, ZI, ZJ, ZK, i64_w, i32_w]; rfl
      refine pure_ (i := 2) (N := some 18) (v := ?_) (a' := ?_) (ZB 16 7) rfl rfl (any_of HT_.out (by kernel_rfl)) (fun _ _ _ h => h) (Or.inl ⟨by rfl, ?_⟩) ?_ ?_
      rotate_left
      ·intro w'; go_simp; with_reducible rfl
      rotate_left
      ·simp only [Act.put, ZI, ZJ, ZK, i64_w, i32_w]; rfl
      refine pure_ (i := 3) (N := some 19) (v := ?_) (a' := ?_) (ZB 16 15) rfl rfl (any_of HT_.out (by kernel_rfl)) (fun _ _ _ h => h) (Or.inl ⟨by rfl, ?_⟩) ?_ ?_
      rotate_left
      ·intro w'; go_simp; with_reducible rfl
      rotate_left
      ·simp only [Act.put, ZI, ZJ, ZK, i64_w, i32_w]; rfl
      refine take_ (i := 4) (N := some 20) (v := ?_) (a' := ?_) (ZB 16 31) rfl rfl (take_ofW HT_.out HW_.out (by kernel_rfl)) (fun _ _ _ h => h) (Or.inl ⟨by rfl, ?_⟩) hHeld ?_ ?_
      rotate_left
      ·rintro w' ⟨s0, s1, s2, s3, s4, s5⟩
       go_simp
       with_reducible rfl
      rotate_left
      ·simp only [Act.put, ZI, ZJ, ZK, i64_w, i32_w]; rfl
      refine pure_ (i := 5) (N := some 21) (v := ?_) (a' := ?_) (ZB 16 63) rfl rfl (any_of HT_.out (by kernel_rfl)) (fun _ _ _ h => h) (Or.inl ⟨by rfl, ?_⟩) ?_ ?_
      rotate_left
      ·intro w'; go_simp; with_reducible rfl
      rotate_left
      ·simp only [Act.put, ZI, ZJ, ZK, i64_w, i32_w]; rfl
      refine pure_ (i := 6) (N := some 22) (v := ?_) (a' := ?_) (ZB 16 127) rfl rfl (any_of HT_.out (by kernel_rfl)) (fun _ _ _ h => h) (Or.inl ⟨by rfl, ?_⟩) ?_ ?_
      rotate_left
      ·intro w'; go_simp; with_reducible rfl
      rotate_left
      ·simp only [Act.put, ZI, ZJ, ZK, i64_w, i32_w]; rfl
      refine pure_ (i := 8) (N := some 24) (v := ?_) (a' := ?_) (ZB 16 383) rfl rfl (any_of HT_.out (by kernel_rfl)) (fun _ _ _ h => h) (Or.inl ⟨by rfl, ?_⟩) ?_ ?_
      rotate_left
      ·intro w'; go_simp; with_reducible rfl
      rotate_left
      ·simp only [Act.put, ZI, ZJ, ZK, i64_w, i32_w]; rfl
      refine pure_ (i := 9) (N := some 25) (v := ?_) (a' := ?_) (ZB 16 895) rfl rfl (any_of HT_.out (by kernel_rfl)) (fun _ _ _ h => h) (Or.inl ⟨by rfl, ?_⟩) ?_ ?_
      rotate_left
      ·intro w'; go_simp; with_reducible rfl
      rotate_left
      ·simp only [Act.put, ZI, ZJ, ZK, i64_w, i32_w]; rfl
      refine pure_ (i := 10) (N := some 26) (v := ?_) (a' := ?_) (ZB 16 1919) rfl rfl (any_of HT_.out (by kernel_rfl)) (fun _ _ _ h => h) (Or.inl ⟨by rfl, ?_⟩) ?_ ?_
      rotate_left
      ·intro w'; go_simp; with_reducible rfl
      rotate_left
      ·simp only [Act.put, ZI, ZJ, ZK, i64_w, i32_w]; rfl
      refine take_ (i := 7) (N := some 23) (v := ?_) (a' := ?_) (ZB 16 2047) rfl rfl (take_ofW HT_.out HW_.out (by kernel_rfl)) (fun _ _ _ h => h) (Or.inl ⟨by rfl, ?_⟩) hHeld ?_ ?_
      rotate_left
      ·rintro w' ⟨s0, s1, s2, s3, s4, s5⟩
       go_simp
       with_reducible rfl
      rotate_left
      ·simp only [Act.put, ZI, ZJ, ZK, i64_w, i32_w]; rfl
      refine take_ (i := 11) (N := some 27) (v := ?_) (a' := ?_) (ZB 16 4095) rfl rfl (take_ofW HT_.out HW_.out (by kernel_rfl)) (fun _ _ _ h => h) (Or.inl ⟨by rfl, ?_⟩) hHeld ?_ ?_
      rotate_left
      ·rintro w' ⟨s0, s1, s2, s3, s4, s5⟩
       go_simp
       with_reducible rfl
      rotate_left
      ·simp only [Act.put, ZI, ZJ, ZK, i64_w, i32_w]; rfl
      refine one_ (i := 12) (N := some 28) (ZB 16 8191) rfl rfl (one_of HT_.out (by kernel_rfl)) (by decide) (fun K hK => ?_)
      refine goes_ Tryd.func47 (by kernel_rfl) rfl #[.agg #[.slice A0_0 l0_0.length c0_0, .slice A0_1 l0_1.length c0_1], .agg #[.int .i64 ((rd_T82 t239 x4_1).f0), .int .i64 ((rd_T82 t239 x4_1).f1)]] (by rfl) rfl rfl ZH ?_
      with_reducible refine (meanderref08_Prev.calls k1 _ _ l0_0 _ _ l0_1 ((rd_T82 t239 x4_1).f0) ((rd_T82 t239 x4_1).f1) t244 _ ?side1 ?side2 ?side3 ?side4 A11.out).mono ?_
      (case side1 => repeat (first | exact (Kd.C_below HR0_0.out HB.out) | (with_reducible refine Kd.C_alloc ?_ _) | (with_reducible refine Kd.C_drewN ?_ _) | (with_reducible refine Kd.C_drew ?_)))
      (case side2 => exact HC0_0.out)
      (case side3 => repeat (first | exact (Kd.C_below HR0_1.out HB.out) | (with_reducible refine Kd.C_alloc ?_ _) | (with_reducible refine Kd.C_drewN ?_ _) | (with_reducible refine Kd.C_drew ?_)))
      (case side4 => exact HC0_1.out)
      rintro e w15 ⟨v245, rfl, ho0, hb⟩
      have HS2_ := (hb.cell (ZC _ _ (hHeld.2.2.1))).trans (hHeld.2.2.1)
      have HS3_ := (hb.cell (ZC _ _ (hHeld.2.2.2.1))).trans (hHeld.2.2.2.1)
      have HS4_ := (hb.cell (ZC _ _ (hHeld.2.2.2.2.1))).trans (hHeld.2.2.2.2.1)
      have HS5_ := (hb.cell (ZC _ _ (hHeld.2.2.2.2.2))).trans (hHeld.2.2.2.2.2)
      refine ⟨_, rfl, ?_⟩
      have n0_ := ZM (Kd.R_below (ZRK HO_3.out) hb)
      have n1_ := ZM (Kd.R_lower ho0 (ZV (ZBB HB.out)))
      have n2_ := ZM (blk_below (g := gb238) (o := .cells #[.slice A0_0 l0_0.length c0_0, .slice A0_1 l0_1.length c0_1] 27 (0, 0)) (ZBK BK238.out) hb)
      have n3_ := ZM (ZW (ZBB HB.out) hb)
      clear HO_3
      clear BK238
      clear HB
      have HO_3 := n0_
      have HO246 := n1_
      have BK238 := n2_
      have HB := n3_
      clear n0_ n1_ n2_ n3_
      (try clear hb)
      (try clear hb2)
      (try clear hk)
      (try clear hi)
      (try clear ho0)
      obtain ⟨Ao16, co16, eo16⟩ := Kd.R_slice HO246.out
      (first | subst eo16 | (injection eo16 with f1_ f2_ f3_; have f4_ := f1_.symm; have f5_ := f3_.symm; clear f1_ f2_ f3_; subst f4_; subst f5_))
      refine hK.out _ _ ⟨(ZG BK238.out 0).trans rfl, (ZG BK238.out 1).trans rfl, HS2_, HS3_, HS4_, HS5_⟩ (fun hHeld => ?_)
      clear hK K
      refine norm_ (a' := ?_) ?_ ?_
      rotate_left
      ·show Act.put _ (some 28) _ = _
       simp only [Act.put, ZI, ZJ, ZK, i64_w, i32_w]
       rfl
      refine pure_ (i := 13) (N := some 29) (v := ?_) (a' := ?_) (ZB 16 16383) rfl rfl (any_of HT_.out (by kernel_rfl)) (fun _ _ _ h => h) (Or.inl ⟨by rfl, ?_⟩) ?_ ?_
      rotate_left
      ·intro w'; go_simp; with_reducible rfl
      rotate_left
      ·simp only [Act.put, ZI, ZJ, ZK, i64_w, i32_w]; rfl
      refine pure_ (i := 14) (N := some 30) (v := ?_) (a' := ?_) (ZB 16 32767) rfl rfl (any_of HT_.out (by kernel_rfl)) (fun _ _ _ h => h) (Or.inl ⟨by rfl, ?_⟩) ?_ ?_
      rotate_left
      ·intro w'; go_simp; with_reducible rfl
      rotate_left
      ·simp only [Act.put, ZI, ZJ, ZK, i64_w, i32_w]; rfl
      refine pure_ (i := 15) (N := some 31) (v := ?_) (a' := ?_) (ZB 16 65535) rfl rfl (any_of HT_.out (by kernel_rfl)) (fun _ _ _ h => h) (Or.inl ⟨by rfl, ?_⟩) ?_ ?_
      rotate_left
      ·intro w'; go_simp; with_reducible rfl
      rotate_left
      ·simp only [Act.put, ZI, ZJ, ZK, i64_w, i32_w]; rfl
      refine done_ (done_of HT_.out (by kernel_rfl)) ?_
      try go_wp2
      go_roundg k1
      case measure => have := HK1.out; omega
      case rel => exact ⟨(wrap64 (x4_1 + 1)), (by first | rfl | (simp; done) | (simp [*]; done)), H', ⟨by have := HK1.out; omega⟩, ⟨ZRK HO_3.out⟩, ⟨ZBK BK238.out⟩, ⟨ZBB HB.out⟩⟩
     ·rw [if_neg c12] at H
      have c12b0 : ((t244.length : Int) == 1) = false := beq_eq_false_iff_ne.mpr c12
      have c12b1 : ((t244.length : Int) != 1) = true := bne_iff_ne.mpr c12
      obtain rfl := Option.some.inj H
      obtain ⟨Ao17, co17, eo17⟩ := Kd.R_slice HO_3.out
      subst eo17
      try go_wp2
      have n0_ := ZM (ZZ HO_3.out)
      have n1_ := ZM (ZS BK238.out)
      have n2_ := ZM (ZP HB.out)
      clear HO_3
      clear BK238
      clear HB
      have HO_3 := n0_
      have BK238 := n1_
      have HB := n2_
      clear n0_ n1_ n2_
      have p242 : 0 ≤ (x4_1 : Int) := ZOD
      have q242 : x4_1 < (t239.length : Int) := ZOD
      obtain ⟨ad242, e242, hx242_0, hx242_1⟩ := at_T82 (Kd.R_reads' HO_3.out).2.2 x4_1 p242 q242
      cases e242
      replace p242 := eq_true p242
      replace q242 := eq_true q242
      have p243 : 0 ≤ (x4_1 : Int) := ZOD
      have q243 : x4_1 < (t239.length : Int) := ZOD
      obtain ⟨ad243, e243, hx243_0, hx243_1⟩ := at_T82 (Kd.R_reads' HO_3.out).2.2 x4_1 p243 q243
      obtain rfl : ad242 = ad243 := (by injection e243)
      replace p243 := eq_true p243
      replace q243 := eq_true q243
      refine start_ (n := 16) (S := fun w' => w'.cell? ⟨gb238, 0, none⟩ = some (.slice A0_0 l0_0.length c0_0) ∧ w'.cell? ⟨gb238, 1, none⟩ = some (.slice A0_1 l0_1.length c0_1) ∧ w'.cell? (ad242.add ((x4_1).toNat * 2)) = some (.int .i64 ((rd_T82 t239 x4_1).f0)) ∧ w'.cell? ⟨(ad242.add ((x4_1).toNat * 2)).block, (ad242.add ((x4_1).toNat * 2)).off + 1, none⟩ = some (.int .i64 ((rd_T82 t239 x4_1).f1)) ∧ w'.cell? (ad242.add ((x4_1).toNat * 2)) = some (.int .i64 ((rd_T82 t239 x4_1).f0)) ∧ w'.cell? ⟨(ad242.add ((x4_1).toNat * 2)).block, (ad242.add ((x4_1).toNat * 2)).off + 1, none⟩ = some (.int .i64 ((rd_T82 t239 x4_1).f1))) (ds := []) #[false, false, false, false, false, false, false, false, false, false, false, false, false, false, false, false] (by kernel_rfl) rfl rfl ⟨(ZG BK238.out 0).trans rfl, (ZG BK238.out 1).trans rfl, hx242_0, hx242_1, hx243_0, hx243_1⟩ (fun hHeld => ?_); refine with_tabW meanderref09_ports.tab5 meanderref09_ports.bits5 (fun HT_ HW_ => ?_)
      generalize wr.drew = w18 at HO_3 BK238 HB hx242_0 hx242_1 hx243_0 hx243_1 hHeld ⊢
      refine pure_ (i := 0) (N := some 16) (v := ?_) (a' := ?_) (ZB 16 1) rfl rfl (any_of HT_.out (by kernel_rfl)) (fun _ _ _ h => h) (Or.inl ⟨by rfl, ?_⟩) ?_ ?_
      rotate_left
      ·intro w'; go_simp; with_reducible rfl
      rotate_left
      ·simp only [Act.put, ZI, ZJ, ZK, i64_w, i32_w]; rfl
      refine pure_ (i := 1) (N := some 17) (v := ?_) (a' := ?_) (ZB 16 3) rfl rfl (any_of HT_.out (by kernel_rfl)) (fun _ _ _ h => h) (Or.inl ⟨by rfl, ?_⟩) ?_ ?_
      rotate_left
      ·intro w'; go_simp; with_reducible rfl
      rotate_left
      ·simp only [Act.put, ZI, ZJ, ZK, i64_w, i32_w]; rfl
      refine pure_ (i := 2) (N := some 18) (v := ?_) (a' := ?_) (ZB 16 7) rfl rfl (any_of HT_.out (by kernel_rfl)) (fun _ _ _ h => h) (Or.inl ⟨by rfl, ?_⟩) ?_ ?_
      rotate_left
      ·intro w'; go_simp; with_reducible rfl
      rotate_left
      ·simp only [Act.put, ZI, ZJ, ZK, i64_w, i32_w]; rfl
      refine pure_ (i := 3) (N := some 19) (v := ?_) (a' := ?_) (ZB 16 15) rfl rfl (any_of HT_.out (by kernel_rfl)) (fun _ _ _ h => h) (Or.inl ⟨by rfl, ?_⟩) ?_ ?_
      rotate_left
      ·intro w'; go_simp; with_reducible rfl
      rotate_left
      ·simp only [Act.put, ZI, ZJ, ZK, i64_w, i32_w]; rfl
      refine take_ (i := 4) (N := some 20) (v := ?_) (a' := ?_) (ZB 16 31) rfl rfl (take_ofW HT_.out HW_.out (by kernel_rfl)) (fun _ _ _ h => h) (Or.inl ⟨by rfl, ?_⟩) hHeld ?_ ?_
      rotate_left
      ·rintro w' ⟨s0, s1, s2, s3, s4, s5⟩
       go_simp
       with_reducible rfl
      rotate_left
      ·simp only [Act.put, ZI, ZJ, ZK, i64_w, i32_w]; rfl
      refine pure_ (i := 5) (N := some 21) (v := ?_) (a' := ?_) (ZB 16 63) rfl rfl (any_of HT_.out (by kernel_rfl)) (fun _ _ _ h => h) (Or.inl ⟨by rfl, ?_⟩) ?_ ?_
      rotate_left
      ·intro w'; go_simp; with_reducible rfl
      rotate_left
      ·simp only [Act.put, ZI, ZJ, ZK, i64_w, i32_w]; rfl
      refine pure_ (i := 6) (N := some 22) (v := ?_) (a' := ?_) (ZB 16 127) rfl rfl (any_of HT_.out (by kernel_rfl)) (fun _ _ _ h => h) (Or.inl ⟨by rfl, ?_⟩) ?_ ?_
      rotate_left
      ·intro w'; go_simp; with_reducible rfl
      rotate_left
      ·simp only [Act.put, ZI, ZJ, ZK, i64_w, i32_w]; rfl
      refine pure_ (i := 8) (N := some 24) (v := ?_) (a' := ?_) (ZB 16 383) rfl rfl (any_of HT_.out (by kernel_rfl)) (fun _ _ _ h => h) (Or.inl ⟨by rfl, ?_⟩) ?_ ?_
      rotate_left
      ·intro w'; go_simp; with_reducible rfl
      rotate_left
      ·simp only [Act.put, ZI, ZJ, ZK, i64_w, i32_w]; rfl
      refine pure_ (i := 9) (N := some 25) (v := ?_) (a' := ?_) (ZB 16 895) rfl rfl (any_of HT_.out (by kernel_rfl)) (fun _ _ _ h => h) (Or.inl ⟨by rfl, ?_⟩) ?_ ?_
      rotate_left
      ·intro w'; go_simp; with_reducible rfl
      rotate_left
      ·simp only [Act.put, ZI, ZJ, ZK, i64_w, i32_w]; rfl
      refine pure_ (i := 10) (N := some 26) (v := ?_) (a' := ?_) (ZB 16 1919) rfl rfl (any_of HT_.out (by kernel_rfl)) (fun _ _ _ h => h) (Or.inl ⟨by rfl, ?_⟩) ?_ ?_
      rotate_left
      ·intro w'; go_simp; with_reducible rfl
      rotate_left
      ·simp only [Act.put, ZI, ZJ, ZK, i64_w, i32_w]; rfl
      refine take_ (i := 7) (N := some 23) (v := ?_) (a' := ?_) (ZB 16 2047) rfl rfl (take_ofW HT_.out HW_.out (by kernel_rfl)) (fun _ _ _ h => h) (Or.inl ⟨by rfl, ?_⟩) hHeld ?_ ?_
      rotate_left
      ·rintro w' ⟨s0, s1, s2, s3, s4, s5⟩
       go_simp
       with_reducible rfl
      rotate_left
      ·simp only [Act.put, ZI, ZJ, ZK, i64_w, i32_w]; rfl
      refine take_ (i := 11) (N := some 27) (v := ?_) (a' := ?_) (ZB 16 4095) rfl rfl (take_ofW HT_.out HW_.out (by kernel_rfl)) (fun _ _ _ h => h) (Or.inl ⟨by rfl, ?_⟩) hHeld ?_ ?_
      rotate_left
      ·rintro w' ⟨s0, s1, s2, s3, s4, s5⟩
       go_simp
       with_reducible rfl
      rotate_left
      ·simp only [Act.put, ZI, ZJ, ZK, i64_w, i32_w]; rfl
      refine one_ (i := 12) (N := some 28) (ZB 16 8191) rfl rfl (one_of HT_.out (by kernel_rfl)) (by decide) (fun K hK => ?_)
      refine goes_ Tryd.func47 (by kernel_rfl) rfl #[.agg #[.slice A0_0 l0_0.length c0_0, .slice A0_1 l0_1.length c0_1], .agg #[.int .i64 ((rd_T82 t239 x4_1).f0), .int .i64 ((rd_T82 t239 x4_1).f1)]] (by rfl) rfl rfl ZH ?_
      with_reducible refine (meanderref08_Prev.calls k1 _ _ l0_0 _ _ l0_1 ((rd_T82 t239 x4_1).f0) ((rd_T82 t239 x4_1).f1) t244 _ ?side1 ?side2 ?side3 ?side4 A11.out).mono ?_
      (case side1 => repeat (first | exact (Kd.C_below HR0_0.out HB.out) | (with_reducible refine Kd.C_alloc ?_ _) | (with_reducible refine Kd.C_drewN ?_ _) | (with_reducible refine Kd.C_drew ?_)))
      (case side2 => exact HC0_0.out)
      (case side3 => repeat (first | exact (Kd.C_below HR0_1.out HB.out) | (with_reducible refine Kd.C_alloc ?_ _) | (with_reducible refine Kd.C_drewN ?_ _) | (with_reducible refine Kd.C_drew ?_)))
      (case side4 => exact HC0_1.out)
      rintro e w19 ⟨v245, rfl, ho0, hb⟩
      have HS2_ := (hb.cell (ZC _ _ (hHeld.2.2.1))).trans (hHeld.2.2.1)
      have HS3_ := (hb.cell (ZC _ _ (hHeld.2.2.2.1))).trans (hHeld.2.2.2.1)
      have HS4_ := (hb.cell (ZC _ _ (hHeld.2.2.2.2.1))).trans (hHeld.2.2.2.2.1)
      have HS5_ := (hb.cell (ZC _ _ (hHeld.2.2.2.2.2))).trans (hHeld.2.2.2.2.2)
      refine ⟨_, rfl, ?_⟩
      have n0_ := ZM (Kd.R_below (ZRK HO_3.out) hb)
      have n1_ := ZM (Kd.R_lower ho0 (ZV (ZBB HB.out)))
      have n2_ := ZM (blk_below (g := gb238) (o := .cells #[.slice A0_0 l0_0.length c0_0, .slice A0_1 l0_1.length c0_1] 27 (0, 0)) (ZBK BK238.out) hb)
      have n3_ := ZM (ZW (ZBB HB.out) hb)
      clear HO_3
      clear BK238
      clear HB
      have HO_3 := n0_
      have HO246 := n1_
      have BK238 := n2_
      have HB := n3_
      clear n0_ n1_ n2_ n3_
      (try clear hb)
      (try clear hb2)
      (try clear hk)
      (try clear hi)
      (try clear ho0)
      obtain ⟨Ao20, co20, eo20⟩ := Kd.R_slice HO246.out
      (first | subst eo20 | (injection eo20 with f1_ f2_ f3_; have f4_ := f1_.symm; have f5_ := f3_.symm; clear f1_ f2_ f3_; subst f4_; subst f5_))
      refine hK.out _ _ ⟨(ZG BK238.out 0).trans rfl, (ZG BK238.out 1).trans rfl, HS2_, HS3_, HS4_, HS5_⟩ (fun hHeld => ?_)
      clear hK K
      refine norm_ (a' := ?_) ?_ ?_
      rotate_left
      ·show Act.put _ (some 28) _ = _
       simp only [Act.put, ZI, ZJ, ZK, i64_w, i32_w]
       rfl
      refine pure_ (i := 13) (N := some 29) (v := ?_) (a' := ?_) (ZB 16 16383) rfl rfl (any_of HT_.out (by kernel_rfl)) (fun _ _ _ h => h) (Or.inl ⟨by rfl, ?_⟩) ?_ ?_
      rotate_left
      ·intro w'; go_simp; with_reducible rfl
      rotate_left
      ·simp only [Act.put, ZI, ZJ, ZK, i64_w, i32_w]; rfl
      refine pure_ (i := 14) (N := some 30) (v := ?_) (a' := ?_) (ZB 16 32767) rfl rfl (any_of HT_.out (by kernel_rfl)) (fun _ _ _ h => h) (Or.inl ⟨by rfl, ?_⟩) ?_ ?_
      rotate_left
      ·intro w'; go_simp; with_reducible rfl
      rotate_left
      ·simp only [Act.put, ZI, ZJ, ZK, i64_w, i32_w]; rfl
      refine pure_ (i := 15) (N := some 31) (v := ?_) (a' := ?_) (ZB 16 65535) rfl rfl (any_of HT_.out (by kernel_rfl)) (fun _ _ _ h => h) (Or.inl ⟨by rfl, ?_⟩) ?_ ?_
      rotate_left
      ·intro w'; go_simp; with_reducible rfl
      rotate_left
      ·simp only [Act.put, ZI, ZJ, ZK, i64_w, i32_w]; rfl
      refine done_ (done_of HT_.out (by kernel_rfl)) ?_
      try go_wp2
      go_ret
      exact ⟨by first | rfl | (simp [errW_none, errW_some] <;> rfl) | (simp [*, errW_none, errW_some] <;> rfl), ZBB HB.out⟩
   ·rw [if_neg c6] at H
    have c6b0 : decide (x4_1 < (t239.length : Int)) = false := decide_eq_false c6
    clear c6
    have H' := ZM H
    clear H
    obtain ⟨Ao21, co21, eo21⟩ := Kd.R_slice HO_3.out
    subst eo21
    go_wp2
    go_loopg [5] k1 (fun kq v5 w' => ∃ (x5_2 : Int), v5 = .int .i64 x5_2 ∧ Aside0 (meanderref09_ports.l1 kq t239 x5_2 l0_0 l0_1 = some r) ∧ Aside0 (kq ≤ k1) ∧ Aside0 (Kd.R k82 82 w' w.heap.size (fun _ => True) (.slice Ao21 t239.length co21) t239) ∧ Aside0 (w'.heap[gb238]? = some (.cells #[(.slice A0_0 l0_0.length c0_0), (.slice A0_1 l0_1.length c0_1)] 27 (0, 0))) ∧ Aside0 (Below w.heap.size w w'))
    case atStart => exact ⟨(0), (by first | rfl | (simp; done) | (simp [*]; done)), H', ⟨Nat.le_refl _⟩, ⟨ZRK HO_3.out⟩, ⟨ZBK BK238.out⟩, ⟨ZBB HB.out⟩⟩
    case round =>
     clear H'
     try clear c6
     try clear c6b0
     try clear c7
     try clear c7b0
     try clear c8
     try clear c8b0
     try clear c8b1
     try clear c12
     try clear c12b0
     try clear c12b1
     try clear hcz4_0
     try clear hcz4_1
     try clear hfz4_0
     try clear hfz4_1
     try clear hx242_0
     try clear hx242_1
     try clear hx243_0
     try clear hx243_1
     try clear p242
     try clear p243
     try clear q242
     try clear q243
     obtain ⟨x5_2, rfl, HA, HK2, HO_3, BK238, HB⟩ := hrel
     cases gk with
     | zero => exact absurd HA.out (by simp [meanderref09_ports.l1])
     | succ k2 =>
      have H := HA.out
      clear HA
      simp only [meanderref09_ports.l1] at H
      by_cases c22 : x5_2 < (t239.length : Int)
      ·rw [if_pos c22] at H
       have c22b0 : decide (x5_2 < (t239.length : Int)) = true := decide_eq_true c22
       clear c22
       by_cases c23 : 0 ≤ x5_2
       case neg =>
        rw [if_neg c23] at H
        exact absurd H (by simp)
       rw [if_pos c23] at H
       have c23b0 : decide (0 ≤ x5_2) = true := decide_eq_true c23
       clear c23
       by_cases c24 : 0 ≤ ((rd_T82 t239 x5_2).f0)
       case neg =>
        rw [if_neg c24] at H
        exact absurd H (by simp)
       rw [if_pos c24] at H
       have c24b0 : decide (0 ≤ ((rd_T82 t239 x5_2).f0)) = true := decide_eq_true c24
       clear c24
       by_cases c25 : ((rd_T82 t239 x5_2).f0) < (l0_0.length : Int)
       case neg =>
        rw [if_neg c25] at H
        exact absurd H (by simp)
       rw [if_pos c25] at H
       have c25b0 : decide (((rd_T82 t239 x5_2).f0) < (l0_0.length : Int)) = true := decide_eq_true c25
       clear c25
       have HC26 := ZM H
       clear H
       try go_wp2
       have n0_ := ZM (ZZ HO_3.out)
       have n1_ := ZM (ZS BK238.out)
       have n2_ := ZM (ZP HB.out)
       clear HO_3
       clear BK238
       clear HB
       have HO_3 := n0_
       have BK238 := n1_
       have HB := n2_
       clear n0_ n1_ n2_
       have p247 : 0 ≤ (x5_2 : Int) := ZOD
       have q247 : x5_2 < (t239.length : Int) := ZOD
       obtain ⟨ad247, e247, hx247_0, hx247_1⟩ := at_T82 (Kd.R_reads' HO_3.out).2.2 x5_2 p247 q247
       cases e247
       replace p247 := eq_true p247
       replace q247 := eq_true q247
       have p248 : 0 ≤ (((rd_T82 t239 x5_2).f0) : Int) := ZOD
       have q248 : ((rd_T82 t239 x5_2).f0) < (l0_0.length : Int) := ZOD
       obtain ⟨ad248, e248, hx248_0, hx248_1, hx248_2, hx248_3⟩ := at_T40 HR0_0.out ((rd_T82 t239 x5_2).f0) p248 q248
       have hw248_3 := hx248_3
       have hw248_2 := hx248_2
       have hw248_1 := hx248_1
       have hw248_0 := hx248_0
       cases e248
       replace hx248_0 := (HB.out.cell (ZC w _ hx248_0)).trans hx248_0
       replace hx248_1 := (HB.out.cell (ZC w _ hx248_1)).trans hx248_1
       replace hx248_2 := (HB.out.cell (ZC w _ hx248_2)).trans hx248_2
       replace hx248_3 := (HB.out.cell (ZC w _ hx248_3)).trans hx248_3
       replace p248 := eq_true p248
       replace q248 := eq_true q248
       refine start_ (n := 11) (S := fun w' => w'.cell? ⟨gb238, 0, none⟩ = some (.slice (some ad248) l0_0.length c0_0) ∧ w'.cell? ⟨gb238, 1, none⟩ = some (.slice A0_1 l0_1.length c0_1) ∧ w'.cell? (ad247.add ((x5_2).toNat * 2)) = some (.int .i64 ((rd_T82 t239 x5_2).f0)) ∧ w'.cell? ⟨(ad247.add ((x5_2).toNat * 2)).block, (ad247.add ((x5_2).toNat * 2)).off + 1, none⟩ = some (.int .i64 ((rd_T82 t239 x5_2).f1)) ∧ w'.cell? (ad248.add ((((rd_T82 t239 x5_2).f0)).toNat * 4)) = some (.int .i64 ((rd_T40 l0_0 ((rd_T82 t239 x5_2).f0)).f0)) ∧ w'.cell? ⟨(ad248.add ((((rd_T82 t239 x5_2).f0)).toNat * 4)).block, (ad248.add ((((rd_T82 t239 x5_2).f0)).toNat * 4)).off + 1, none⟩ = some (.int .i64 ((rd_T40 l0_0 ((rd_T82 t239 x5_2).f0)).f1)) ∧ w'.cell? ⟨(ad248.add ((((rd_T82 t239 x5_2).f0)).toNat * 4)).block, (ad248.add ((((rd_T82 t239 x5_2).f0)).toNat * 4)).off + 2, none⟩ = some (.int .i64 ((rd_T40 l0_0 ((rd_T82 t239 x5_2).f0)).f2)) ∧ w'.cell? ⟨(ad248.add ((((rd_T82 t239 x5_2).f0)).toNat * 4)).block, (ad248.add ((((rd_T82 t239 x5_2).f0)).toNat * 4)).off + 3, none⟩ = some (.int .i64 ((rd_T40 l0_0 ((rd_T82 t239 x5_2).f0)).f3))) (ds := []) #[false, false, false, false, false, false, false, false, false, false, false] (by kernel_rfl) rfl rfl ⟨(ZG BK238.out 0).trans rfl, (ZG BK238.out 1).trans rfl, hx247_0, hx247_1, ((HB.out.cell (ZC w _ hw248_0)).trans hw248_0), ((HB.out.cell (ZC w _ hw248_1)).trans hw248_1), ((HB.out.cell (ZC w _ hw248_2)).trans hw248_2), ((HB.out.cell (ZC w _ hw248_3)).trans hw248_3)⟩ (fun hHeld => ?_); refine with_tabW meanderref09_ports.tab10 meanderref09_ports.bits10 (fun HT_ HW_ => ?_)
       generalize wr.drew = w27 at HO_3 BK238 HB hx247_0 hx247_1 hx248_0 hx248_1 hx248_2 hx248_3 hHeld ⊢
       refine pure_ (i := 0) (N := some 38) (v := ?_) (a' := ?_) (ZB 11 1) rfl rfl (any_of HT_.out (by kernel_rfl)) (fun _ _ _ h => h) (Or.inl ⟨by rfl, ?_⟩) ?_ ?_
       rotate_left
       ·intro w'; go_simp; with_reducible rfl
       rotate_left
       ·simp only [Act.put, ZI, ZJ, ZK, i64_w, i32_w]; rfl
       refine pure_ (i := 2) (N := some 40) (v := ?_) (a' := ?_) (ZB 11 5) rfl rfl (any_of HT_.out (by kernel_rfl)) (fun _ _ _ h => h) (Or.inl ⟨by rfl, ?_⟩) ?_ ?_
       rotate_left
       ·intro w'; go_simp; with_reducible rfl
       rotate_left
       ·simp only [Act.put, ZI, ZJ, ZK, i64_w, i32_w]; rfl
       refine pure_ (i := 3) (N := some 41) (v := ?_) (a' := ?_) (ZB 11 13) rfl rfl (any_of HT_.out (by kernel_rfl)) (fun _ _ _ h => h) (Or.inl ⟨by rfl, ?_⟩) ?_ ?_
       rotate_left
       ·intro w'; go_simp; with_reducible rfl
       rotate_left
       ·simp only [Act.put, ZI, ZJ, ZK, i64_w, i32_w]; rfl
       refine pure_ (i := 4) (N := some 42) (v := ?_) (a' := ?_) (ZB 11 29) rfl rfl (any_of HT_.out (by kernel_rfl)) (fun _ _ _ h => h) (Or.inl ⟨by rfl, ?_⟩) ?_ ?_
       rotate_left
       ·intro w'; go_simp; with_reducible rfl
       rotate_left
       ·simp only [Act.put, ZI, ZJ, ZK, i64_w, i32_w]; rfl
       refine pure_ (i := 5) (N := some 43) (v := ?_) (a' := ?_) (ZB 11 61) rfl rfl (any_of HT_.out (by kernel_rfl)) (fun _ _ _ h => h) (Or.inl ⟨by rfl, ?_⟩) ?_ ?_
       rotate_left
       ·intro w'; go_simp; with_reducible rfl
       rotate_left
       ·simp only [Act.put, ZI, ZJ, ZK, i64_w, i32_w]; rfl
       refine take_ (i := 1) (N := some 39) (v := ?_) (a' := ?_) (ZB 11 63) rfl rfl (take_ofW HT_.out HW_.out (by kernel_rfl)) (fun _ _ _ h => h) (Or.inl ⟨by rfl, ?_⟩) hHeld ?_ ?_
       rotate_left
       ·rintro w' ⟨s0, s1, s2, s3, s4, s5, s6, s7⟩
        go_simp
        with_reducible rfl
       rotate_left
       ·simp only [Act.put, ZI, ZJ, ZK, i64_w, i32_w]; rfl
       refine take_ (i := 6) (N := some 44) (v := ?_) (a' := ?_) (ZB 11 127) rfl rfl (take_ofW HT_.out HW_.out (by kernel_rfl)) (fun _ _ _ h => h) (Or.inl ⟨by rfl, ?_⟩) hHeld ?_ ?_
       rotate_left
       ·rintro w' ⟨s0, s1, s2, s3, s4, s5, s6, s7⟩
        go_simp
        with_reducible rfl
       rotate_left
       ·simp only [Act.put, ZI, ZJ, ZK, i64_w, i32_w]; rfl
       refine pure_ (i := 7) (N := some 45) (v := ?_) (a' := ?_) (ZB 11 255) rfl rfl (any_of HT_.out (by kernel_rfl)) (fun _ _ _ h => h) (Or.inl ⟨by rfl, ?_⟩) ?_ ?_
       rotate_left
       ·intro w'; go_simp; with_reducible rfl
       rotate_left
       ·simp only [Act.put, ZI, ZJ, ZK, i64_w, i32_w]; rfl
       refine take_ (i := 8) (N := some 46) (v := ?_) (a' := ?_) (ZB 11 511) rfl rfl (take_ofW HT_.out HW_.out (by kernel_rfl)) (fun _ _ _ h => h) (Or.inl ⟨by rfl, ?_⟩) hHeld ?_ ?_
       rotate_left
       ·rintro w' ⟨s0, s1, s2, s3, s4, s5, s6, s7⟩
        go_simp
        with_reducible rfl
       rotate_left
       ·simp only [Act.put, ZI, ZJ, ZK, i64_w, i32_w]; rfl
       refine one_ (i := 9) (N := some 6) (ZB 11 1023) rfl rfl (one_of HT_.out (by kernel_rfl)) (by decide) (fun K hK => ?_)
       refine box_step ?hg (N := 6) ?hd (cs := #[.int .i64 0, .int .i64 0, .int .i64 0, .int .i64 0]) (t := 40) ?hr ?_; (case hd => rfl); (case hg => rfl); (case hr => first | (go_simp; done) | (go_simp; rfl))
       intro gb249 hg w28 hbox hb
       have HS2_ := (hb.cell (ZC _ _ (hHeld.2.2.1))).trans (hHeld.2.2.1)
       have HS3_ := (hb.cell (ZC _ _ (hHeld.2.2.2.1))).trans (hHeld.2.2.2.1)
       have n0_ := ZM (Kd.R_below (ZRK HO_3.out) hb)
       have n1_ := ZM (blk_below (g := gb238) (o := .cells #[.slice (some ad248) l0_0.length c0_0, .slice A0_1 l0_1.length c0_1] 27 (0, 0)) (ZBK BK238.out) hb)
       have n2_ := ZM (ZW (ZBB HB.out) hb)
       have n3_ := ZM (hbox)
       have n4_ := ZM ((by rw [hg]; exact (ZV (ZBB HB.out)) : w.heap.size ≤ gb249))
       have n5_ := ZM ((by rw [hg]; exact (ZV (ZBB HB.out)) : w.heap.size ≤ gb249))
       have n6_ := ZM ((by rw [hg]; exact Nat.ne_of_lt (blk_lt (g := gb238) (o := .cells #[.slice (some ad248) l0_0.length c0_0, .slice A0_1 l0_1.length c0_1] 27 (0, 0)) (ZBK BK238.out)) : gb238 ≠ gb249))
       have n7_ := ZM ((by rw [hg]; exact Nat.ne_of_gt (blk_lt (g := gb238) (o := .cells #[.slice (some ad248) l0_0.length c0_0, .slice A0_1 l0_1.length c0_1] 27 (0, 0)) (ZBK BK238.out)) : gb249 ≠ gb238))
       clear HO_3
       clear BK238
       clear HB
       have HO_3 := n0_
       have BK238 := n1_
       have HB := n2_
       have BK249 := n3_
       have GW249 := n4_
       have GE249 := n5_
       have NB238_249 := n6_
       have NB249_238 := n7_
       clear n0_ n1_ n2_ n3_ n4_ n5_ n6_ n7_
       clear hb hbox hg
       refine hK.out _ _ ⟨(ZG BK238.out 0).trans rfl, (ZG BK238.out 1).trans rfl, HS2_, HS3_, ((HB.out.cell (ZC w _ hw248_0)).trans hw248_0), ((HB.out.cell (ZC w _ hw248_1)).trans hw248_1), ((HB.out.cell (ZC w _ hw248_2)).trans hw248_2), ((HB.out.cell (ZC w _ hw248_3)).trans hw248_3)⟩ (fun hHeld => ?_)
       clear hK K
       refine norm_ (a' := ?_) ?_ ?_
       rotate_left
       ·show Act.put _ (some 6) _ = _
        simp only [Act.put, ZI, ZJ, ZK, i64_w, i32_w]
        rfl
       refine one_ (i := 10) (N := none) (ZB 11 2047) rfl rfl (one_of HT_.out (by kernel_rfl)) (by decide) (fun K hK => ?_)
       have hs29 : w28.cell? ⟨gb249, 0, none⟩ = some (.int .i64 0) := (ZG BK249.out 0).trans rfl
       have hfs29 := ZF BK249.out 0
       have hns29_0 := NB238_249.out
       have hms29_0 := NB249_238.out
       have hs30 : w28.cell? ⟨gb249, 1, none⟩ = some (.int .i64 0) := (ZG BK249.out 1).trans rfl
       have hfs30 := ZF BK249.out 1
       have hns30_0 := NB238_249.out
       have hms30_0 := NB249_238.out
       have hs31 : w28.cell? ⟨gb249, 2, none⟩ = some (.int .i64 0) := (ZG BK249.out 2).trans rfl
       have hfs31 := ZF BK249.out 2
       have hns31_0 := NB238_249.out
       have hms31_0 := NB249_238.out
       have hs32 : w28.cell? ⟨gb249, 3, none⟩ = some (.int .i64 0) := (ZG BK249.out 3).trans rfl
       have hfs32 := ZF BK249.out 3
       have hns32_0 := NB238_249.out
       have hms32_0 := NB249_238.out
       refine skip_ (w1 := ?_) (by rfl) rfl ?_ ?_
       rotate_left
       ·go_simp
        rfl
       refine hK.out _ _ ⟨((cell_far (p := ⟨gb249, _, none⟩) NB238_249.out _).trans (((cell_far (p := ⟨gb249, _, none⟩) NB238_249.out _).trans (((cell_far (p := ⟨gb249, _, none⟩) NB238_249.out _).trans (((cell_far (p := ⟨gb249, _, none⟩) NB238_249.out _).trans (hHeld.1)))))))), ((cell_far (p := ⟨gb249, _, none⟩) NB238_249.out _).trans (((cell_far (p := ⟨gb249, _, none⟩) NB238_249.out _).trans (((cell_far (p := ⟨gb249, _, none⟩) NB238_249.out _).trans (((cell_far (p := ⟨gb249, _, none⟩) NB238_249.out _).trans (hHeld.2.1)))))))), ((cell_far (p := ⟨gb249, _, none⟩) (by first | exact Kd.own_blk (Kd.R_ne HO_3.out BK249.out (by decide)) | (rw [add_block]; exact Kd.own_blk (Kd.R_ne HO_3.out BK249.out (by decide))) | (show (Addr.add _ _).block ≠ _; rw [add_block]; exact Kd.own_blk (Kd.R_ne HO_3.out BK249.out (by decide))) | (dsimp only; exact Kd.own_blk (Kd.R_ne HO_3.out BK249.out (by decide)))) _).trans (((cell_far (p := ⟨gb249, _, none⟩) (by first | exact Kd.own_blk (Kd.R_ne HO_3.out BK249.out (by decide)) | (rw [add_block]; exact Kd.own_blk (Kd.R_ne HO_3.out BK249.out (by decide))) | (show (Addr.add _ _).block ≠ _; rw [add_block]; exact Kd.own_blk (Kd.R_ne HO_3.out BK249.out (by decide))) | (dsimp only; exact Kd.own_blk (Kd.R_ne HO_3.out BK249.out (by decide)))) _).trans (((cell_far (p := ⟨gb249, _, none⟩) (by first | exact Kd.own_blk (Kd.R_ne HO_3.out BK249.out (by decide)) | (rw [add_block]; exact Kd.own_blk (Kd.R_ne HO_3.out BK249.out (by decide))) | (show (Addr.add _ _).block ≠ _; rw [add_block]; exact Kd.own_blk (Kd.R_ne HO_3.out BK249.out (by decide))) | (dsimp only; exact Kd.own_blk (Kd.R_ne HO_3.out BK249.out (by decide)))) _).trans (((cell_far (p := ⟨gb249, _, none⟩) (by first | exact Kd.own_blk (Kd.R_ne HO_3.out BK249.out (by decide)) | (rw [add_block]; exact Kd.own_blk (Kd.R_ne HO_3.out BK249.out (by decide))) | (show (Addr.add _ _).block ≠ _; rw [add_block]; exact Kd.own_blk (Kd.R_ne HO_3.out BK249.out (by decide))) | (dsimp only; exact Kd.own_blk (Kd.R_ne HO_3.out BK249.out (by decide)))) _).trans (hHeld.2.2.1)))))))), ((cell_far (p := ⟨gb249, _, none⟩) (by first | exact Kd.own_blk (Kd.R_ne HO_3.out BK249.out (by decide)) | (rw [add_block]; exact Kd.own_blk (Kd.R_ne HO_3.out BK249.out (by decide))) | (show (Addr.add _ _).block ≠ _; rw [add_block]; exact Kd.own_blk (Kd.R_ne HO_3.out BK249.out (by decide))) | (dsimp only; exact Kd.own_blk (Kd.R_ne HO_3.out BK249.out (by decide)))) _).trans (((cell_far (p := ⟨gb249, _, none⟩) (by first | exact Kd.own_blk (Kd.R_ne HO_3.out BK249.out (by decide)) | (rw [add_block]; exact Kd.own_blk (Kd.R_ne HO_3.out BK249.out (by decide))) | (show (Addr.add _ _).block ≠ _; rw [add_block]; exact Kd.own_blk (Kd.R_ne HO_3.out BK249.out (by decide))) | (dsimp only; exact Kd.own_blk (Kd.R_ne HO_3.out BK249.out (by decide)))) _).trans (((cell_far (p := ⟨gb249, _, none⟩) (by first | exact Kd.own_blk (Kd.R_ne HO_3.out BK249.out (by decide)) | (rw [add_block]; exact Kd.own_blk (Kd.R_ne HO_3.out BK249.out (by decide))) | (show (Addr.add _ _).block ≠ _; rw [add_block]; exact Kd.own_blk (Kd.R_ne HO_3.out BK249.out (by decide))) | (dsimp only; exact Kd.own_blk (Kd.R_ne HO_3.out BK249.out (by decide)))) _).trans (((cell_far (p := ⟨gb249, _, none⟩) (by first | exact Kd.own_blk (Kd.R_ne HO_3.out BK249.out (by decide)) | (rw [add_block]; exact Kd.own_blk (Kd.R_ne HO_3.out BK249.out (by decide))) | (show (Addr.add _ _).block ≠ _; rw [add_block]; exact Kd.own_blk (Kd.R_ne HO_3.out BK249.out (by decide))) | (dsimp only; exact Kd.own_blk (Kd.R_ne HO_3.out BK249.out (by decide)))) _).trans (hHeld.2.2.2.1)))))))), ((cell_far (p := ⟨gb249, _, none⟩) (by first | exact Nat.ne_of_lt (Nat.lt_of_lt_of_le (by have := ZC _ _ hw248_0; first | rwa [add_block] at this | exact this) GW249.out) | (rw [add_block]; exact Nat.ne_of_lt (Nat.lt_of_lt_of_le (by have := ZC _ _ hw248_0; first | rwa [add_block] at this | exact this) GW249.out)) | (show (Addr.add _ _).block ≠ _; rw [add_block]; exact Nat.ne_of_lt (Nat.lt_of_lt_of_le (by have := ZC _ _ hw248_0; first | rwa [add_block] at this | exact this) GW249.out)) | (dsimp only; exact Nat.ne_of_lt (Nat.lt_of_lt_of_le (by have := ZC _ _ hw248_0; first | rwa [add_block] at this | exact this) GW249.out))) _).trans (((cell_far (p := ⟨gb249, _, none⟩) (by first | exact Nat.ne_of_lt (Nat.lt_of_lt_of_le (by have := ZC _ _ hw248_0; first | rwa [add_block] at this | exact this) GW249.out) | (rw [add_block]; exact Nat.ne_of_lt (Nat.lt_of_lt_of_le (by have := ZC _ _ hw248_0; first | rwa [add_block] at this | exact this) GW249.out)) | (show (Addr.add _ _).block ≠ _; rw [add_block]; exact Nat.ne_of_lt (Nat.lt_of_lt_of_le (by have := ZC _ _ hw248_0; first | rwa [add_block] at this | exact this) GW249.out)) | (dsimp only; exact Nat.ne_of_lt (Nat.lt_of_lt_of_le (by have := ZC _ _ hw248_0; first | rwa [add_block] at this | exact this) GW249.out))) _).trans (((cell_far (p := ⟨gb249, _, none⟩) (by first | exact Nat.ne_of_lt (Nat.lt_of_lt_of_le (by have := ZC _ _ hw248_0; first | rwa [add_block] at this | exact this) GW249.out) | (rw [add_block]; exact Nat.ne_of_lt (Nat.lt_of_lt_of_le (by have := ZC _ _ hw248_0; first | rwa [add_block] at this | exact this) GW249.out)) | (show (Addr.add _ _).block ≠ _; rw [add_block]; exact Nat.ne_of_lt (Nat.lt_of_lt_of_le (by have := ZC _ _ hw248_0; first | rwa [add_block] at this | exact this) GW249.out)) | (dsimp only; exact Nat.ne_of_lt (Nat.lt_of_lt_of_le (by have := ZC _ _ hw248_0; first | rwa [add_block] at this | exact this) GW249.out))) _).trans (((cell_far (p := ⟨gb249, _, none⟩) (by first | exact Nat.ne_of_lt (Nat.lt_of_lt_of_le (by have := ZC _ _ hw248_0; first | rwa [add_block] at this | exact this) GW249.out) | (rw [add_block]; exact Nat.ne_of_lt (Nat.lt_of_lt_of_le (by have := ZC _ _ hw248_0; first | rwa [add_block] at this | exact this) GW249.out)) | (show (Addr.add _ _).block ≠ _; rw [add_block]; exact Nat.ne_of_lt (Nat.lt_of_lt_of_le (by have := ZC _ _ hw248_0; first | rwa [add_block] at this | exact this) GW249.out)) | (dsimp only; exact Nat.ne_of_lt (Nat.lt_of_lt_of_le (by have := ZC _ _ hw248_0; first | rwa [add_block] at this | exact this) GW249.out))) _).trans (hHeld.2.2.2.2.1)))))))), ((cell_far (p := ⟨gb249, _, none⟩) (by first | exact Nat.ne_of_lt (Nat.lt_of_lt_of_le (by have := ZC _ _ hw248_1; first | rwa [add_block] at this | exact this) GW249.out) | (rw [add_block]; exact Nat.ne_of_lt (Nat.lt_of_lt_of_le (by have := ZC _ _ hw248_1; first | rwa [add_block] at this | exact this) GW249.out)) | (show (Addr.add _ _).block ≠ _; rw [add_block]; exact Nat.ne_of_lt (Nat.lt_of_lt_of_le (by have := ZC _ _ hw248_1; first | rwa [add_block] at this | exact this) GW249.out)) | (dsimp only; exact Nat.ne_of_lt (Nat.lt_of_lt_of_le (by have := ZC _ _ hw248_1; first | rwa [add_block] at this | exact this) GW249.out))) _).trans (((cell_far (p := ⟨gb249, _, none⟩) (by first | exact Nat.ne_of_lt (Nat.lt_of_lt_of_le (by have := ZC _ _ hw248_1; first | rwa [add_block] at this | exact this) GW249.out) | (rw [add_block]; exact Nat.ne_of_lt (Nat.lt_of_lt_of_le (by have := ZC _ _ hw248_1; first | rwa [add_block] at this | exact this) GW249.out)) | (show (Addr.add _ _).block ≠ _; rw [add_block]; exact Nat.ne_of_lt (Nat.lt_of_lt_of_le (by have := ZC _ _ hw248_1; first | rwa [add_block] at this | exact this) GW249.out)) | (dsimp only; exact Nat.ne_of_lt (Nat.lt_of_lt_of_le (by have := ZC _ _ hw248_1; first | rwa [add_block] at this | exact this) GW249.out))) _).trans (((cell_far (p := ⟨gb249, _, none⟩) (by first | exact Nat.ne_of_lt (Nat.lt_of_lt_of_le (by have := ZC _ _ hw248_1; first | rwa [add_block] at this | exact this) GW249.out) | (rw [add_block]; exact Nat.ne_of_lt (Nat.lt_of_lt_of_le (by have := ZC _ _ hw248_1; first | rwa [add_block] at this | exact this) GW249.out)) | (show (Addr.add _ _).block ≠ _; rw [add_block]; exact Nat.ne_of_lt (Nat.lt_of_lt_of_le (by have := ZC _ _ hw248_1; first | rwa [add_block] at this | exact this) GW249.out)) | (dsimp only; exact Nat.ne_of_lt (Nat.lt_of_lt_of_le (by have := ZC _ _ hw248_1; first | rwa [add_block] at this | exact this) GW249.out))) _).trans (((cell_far (p := ⟨gb249, _, none⟩) (by first | exact Nat.ne_of_lt (Nat.lt_of_lt_of_le (by have := ZC _ _ hw248_1; first | rwa [add_block] at this | exact this) GW249.out) | (rw [add_block]; exact Nat.ne_of_lt (Nat.lt_of_lt_of_le (by have := ZC _ _ hw248_1; first | rwa [add_block] at this | exact this) GW249.out)) | (show (Addr.add _ _).block ≠ _; rw [add_block]; exact Nat.ne_of_lt (Nat.lt_of_lt_of_le (by have := ZC _ _ hw248_1; first | rwa [add_block] at this | exact this) GW249.out)) | (dsimp only; exact Nat.ne_of_lt (Nat.lt_of_lt_of_le (by have := ZC _ _ hw248_1; first | rwa [add_block] at this | exact this) GW249.out))) _).trans (hHeld.2.2.2.2.2.1)))))))), ((cell_far (p := ⟨gb249, _, none⟩) (by first | exact Nat.ne_of_lt (Nat.lt_of_lt_of_le (by have := ZC _ _ hw248_2; first | rwa [add_block] at this | exact this) GW249.out) | (rw [add_block]; exact Nat.ne_of_lt (Nat.lt_of_lt_of_le (by have := ZC _ _ hw248_2; first | rwa [add_block] at this | exact this) GW249.out)) | (show (Addr.add _ _).block ≠ _; rw [add_block]; exact Nat.ne_of_lt (Nat.lt_of_lt_of_le (by have := ZC _ _ hw248_2; first | rwa [add_block] at this | exact this) GW249.out)) | (dsimp only; exact Nat.ne_of_lt (Nat.lt_of_lt_of_le (by have := ZC _ _ hw248_2; first | rwa [add_block] at this | exact this) GW249.out))) _).trans (((cell_far (p := ⟨gb249, _, none⟩) (by first | exact Nat.ne_of_lt (Nat.lt_of_lt_of_le (by have := ZC _ _ hw248_2; first | rwa [add_block] at this | exact this) GW249.out) | (rw [add_block]; exact Nat.ne_of_lt (Nat.lt_of_lt_of_le (by have := ZC _ _ hw248_2; first | rwa [add_block] at this | exact this) GW249.out)) | (show (Addr.add _ _).block ≠ _; rw [add_block]; exact Nat.ne_of_lt (Nat.lt_of_lt_of_le (by have := ZC _ _ hw248_2; first | rwa [add_block] at this | exact this) GW249.out)) | (dsimp only; exact Nat.ne_of_lt (Nat.lt_of_lt_of_le (by have := ZC _ _ hw248_2; first | rwa [add_block] at this | exact this) GW249.out))) _).trans (((cell_far (p := ⟨gb249, _, none⟩) (by first | exact Nat.ne_of_lt (Nat.lt_of_lt_of_le (by have := ZC _ _ hw248_2; first | rwa [add_block] at this | exact this) GW249.out) | (rw [add_block]; exact Nat.ne_of_lt (Nat.lt_of_lt_of_le (by have := ZC _ _ hw248_2; first | rwa [add_block] at this | exact this) GW249.out)) | (show (Addr.add _ _).block ≠ _; rw [add_block]; exact Nat.ne_of_lt (Nat.lt_of_lt_of_le (by have := ZC _ _ hw248_2; first | rwa [add_block] at this | exact this) GW249.out)) | (dsimp only; exact Nat.ne_of_lt (Nat.lt_of_lt_of_le (by have := ZC _ _ hw248_2; first | rwa [add_block] at this | exact this) GW249.out))) _).trans (((cell_far (p := ⟨gb249, _, none⟩) (by first | exact Nat.ne_of_lt (Nat.lt_of_lt_of_le (by have := ZC _ _ hw248_2; first | rwa [add_block] at this | exact this) GW249.out) | (rw [add_block]; exact Nat.ne_of_lt (Nat.lt_of_lt_of_le (by have := ZC _ _ hw248_2; first | rwa [add_block] at this | exact this) GW249.out)) | (show (Addr.add _ _).block ≠ _; rw [add_block]; exact Nat.ne_of_lt (Nat.lt_of_lt_of_le (by have := ZC _ _ hw248_2; first | rwa [add_block] at this | exact this) GW249.out)) | (dsimp only; exact Nat.ne_of_lt (Nat.lt_of_lt_of_le (by have := ZC _ _ hw248_2; first | rwa [add_block] at this | exact this) GW249.out))) _).trans (hHeld.2.2.2.2.2.2.1)))))))), ((cell_far (p := ⟨gb249, _, none⟩) (by first | exact Nat.ne_of_lt (Nat.lt_of_lt_of_le (by have := ZC _ _ hw248_3; first | rwa [add_block] at this | exact this) GW249.out) | (rw [add_block]; exact Nat.ne_of_lt (Nat.lt_of_lt_of_le (by have := ZC _ _ hw248_3; first | rwa [add_block] at this | exact this) GW249.out)) | (show (Addr.add _ _).block ≠ _; rw [add_block]; exact Nat.ne_of_lt (Nat.lt_of_lt_of_le (by have := ZC _ _ hw248_3; first | rwa [add_block] at this | exact this) GW249.out)) | (dsimp only; exact Nat.ne_of_lt (Nat.lt_of_lt_of_le (by have := ZC _ _ hw248_3; first | rwa [add_block] at this | exact this) GW249.out))) _).trans (((cell_far (p := ⟨gb249, _, none⟩) (by first | exact Nat.ne_of_lt (Nat.lt_of_lt_of_le (by have := ZC _ _ hw248_3; first | rwa [add_block] at this | exact this) GW249.out) | (rw [add_block]; exact Nat.ne_of_lt (Nat.lt_of_lt_of_le (by have := ZC _ _ hw248_3; first | rwa [add_block] at this | exact this) GW249.out)) | (show (Addr.add _ _).block ≠ _; rw [add_block]; exact Nat.ne_of_lt (Nat.lt_of_lt_of_le (by have := ZC _ _ hw248_3; first | rwa [add_block] at this | exact this) GW249.out)) | (dsimp only; exact Nat.ne_of_lt (Nat.lt_of_lt_of_le (by have := ZC _ _ hw248_3; first | rwa [add_block] at this | exact this) GW249.out))) _).trans (((cell_far (p := ⟨gb249, _, none⟩) (by first | exact Nat.ne_of_lt (Nat.lt_of_lt_of_le (by have := ZC _ _ hw248_3; first | rwa [add_block] at this | exact this) GW249.out) | (rw [add_block]; exact Nat.ne_of_lt (Nat.lt_of_lt_of_le (by have := ZC _ _ hw248_3; first | rwa [add_block] at this | exact this) GW249.out)) | (show (Addr.add _ _).block ≠ _; rw [add_block]; exact Nat.ne_of_lt (Nat.lt_of_lt_of_le (by have := ZC _ _ hw248_3; first | rwa [add_block] at this | exact this) GW249.out)) | (dsimp only; exact Nat.ne_of_lt (Nat.lt_of_lt_of_le (by have := ZC _ _ hw248_3; first | rwa [add_block] at this | exact this) GW249.out))) _).trans (((cell_far (p := ⟨gb249, _, none⟩) (by first | exact Nat.ne_of_lt (Nat.lt_of_lt_of_le (by have := ZC _ _ hw248_3; first | rwa [add_block] at this | exact this) GW249.out) | (rw [add_block]; exact Nat.ne_of_lt (Nat.lt_of_lt_of_le (by have := ZC _ _ hw248_3; first | rwa [add_block] at this | exact this) GW249.out)) | (show (Addr.add _ _).block ≠ _; rw [add_block]; exact Nat.ne_of_lt (Nat.lt_of_lt_of_le (by have := ZC _ _ hw248_3; first | rwa [add_block] at this | exact this) GW249.out)) | (dsimp only; exact Nat.ne_of_lt (Nat.lt_of_lt_of_le (by have := ZC _ _ hw248_3; first | rwa [add_block] at this | exact this) GW249.out))) _).trans (hHeld.2.2.2.2.2.2.2))))))))⟩ (fun hHeld => ?_)
       clear hK K
       refine done_ (done_of HT_.out (by kernel_rfl)) ?_
       go_upto_region 11 with (fail)
       go_cut [62] (fun v62 wc => ∃ (kq : Nat) (x62_25 : Bool), v62 = .bool x62_25 ∧ Aside0 (meanderref09_ports.j2 kq t239 x5_2 x62_25 l0_0 l0_1 = some r) ∧ Aside0 (kq ≤ k2) ∧ Aside0 (Kd.R k82 82 wc w.heap.size (fun _ => True) (.slice (some ad247) t239.length co21) t239) ∧ Aside0 (wc.heap[gb238]? = some (.cells #[(.slice (some ad248) l0_0.length c0_0), (.slice A0_1 l0_1.length c0_1)] 27 (0, 0))) ∧ Aside0 (wc.heap[gb249]? = some (.cells #[.int .i64 ((rd_T40 l0_0 ((rd_T82 t239 x5_2).f0)).f0), .int .i64 ((rd_T40 l0_0 ((rd_T82 t239 x5_2).f0)).f1), .int .i64 ((rd_T40 l0_0 ((rd_T82 t239 x5_2).f0)).f2), .int .i64 ((rd_T40 l0_0 ((rd_T82 t239 x5_2).f0)).f3)] 40 (0, 0))) ∧ Aside0 (Below w.heap.size w wc))
       case first =>
        have H := HC26.out
        clear HC26
        by_cases c33 : ((rd_T82 t239 x5_2).f1) = (-1)
        ·rw [if_pos c33] at H
         have c33b0 : (((rd_T82 t239 x5_2).f1) == (-1)) = true := beq_iff_eq.mpr c33
         have c33b1 : (((rd_T82 t239 x5_2).f1) != (-1)) = false := bne_eq_false_iff_eq.mpr c33
         clear c33
         (first | rw [c33b0] | (simp only [i64_w, i32_w]; rw [c33b0]) | skip)
         have H' := ZM H
         clear H
         have p250 : 0 ≤ (x5_2 : Int) := ZOD
         have q250 : x5_2 < (t239.length : Int) := ZOD
         obtain ⟨ad250, e250, hx250_0, hx250_1⟩ := at_T82 (Kd.R_reads' HO_3.out).2.2 x5_2 p250 q250
         obtain rfl : ad247 = ad250 := (by injection e250)
         have hn250_0 : ad247.block ≠ gb249 := Kd.own_blk (Kd.R_ne HO_3.out BK249.out (by decide))
         have hn250_1 : ad247.block ≠ gb249 := Kd.own_blk (Kd.R_ne HO_3.out BK249.out (by decide))
         have hn250_2 : ad247.block ≠ gb249 := Kd.own_blk (Kd.R_ne HO_3.out BK249.out (by decide))
         have hn250_3 : ad247.block ≠ gb249 := Kd.own_blk (Kd.R_ne HO_3.out BK249.out (by decide))
         replace hx250_0 := (cell_far (p := ⟨gb249, 0, none⟩) (by first | (rw [add_block]; exact hn250_0) | (show (Addr.add _ _).block ≠ _; rw [add_block]; exact hn250_0) | exact hn250_0) (.int .i64 ((rd_T40 l0_0 ((rd_T82 t239 x5_2).f0)).f0))).trans hx250_0
         replace hx250_1 := (cell_far (p := ⟨gb249, 0, none⟩) (by first | (rw [add_block]; exact hn250_0) | (show (Addr.add _ _).block ≠ _; rw [add_block]; exact hn250_0) | exact hn250_0) (.int .i64 ((rd_T40 l0_0 ((rd_T82 t239 x5_2).f0)).f0))).trans hx250_1
         replace hx250_0 := (cell_far (p := ⟨gb249, 1, none⟩) (by first | (rw [add_block]; exact hn250_1) | (show (Addr.add _ _).block ≠ _; rw [add_block]; exact hn250_1) | exact hn250_1) (.int .i64 ((rd_T40 l0_0 ((rd_T82 t239 x5_2).f0)).f1))).trans hx250_0
         replace hx250_1 := (cell_far (p := ⟨gb249, 1, none⟩) (by first | (rw [add_block]; exact hn250_1) | (show (Addr.add _ _).block ≠ _; rw [add_block]; exact hn250_1) | exact hn250_1) (.int .i64 ((rd_T40 l0_0 ((rd_T82 t239 x5_2).f0)).f1))).trans hx250_1
         replace hx250_0 := (cell_far (p := ⟨gb249, 2, none⟩) (by first | (rw [add_block]; exact hn250_2) | (show (Addr.add _ _).block ≠ _; rw [add_block]; exact hn250_2) | exact hn250_2) (.int .i64 ((rd_T40 l0_0 ((rd_T82 t239 x5_2).f0)).f2))).trans hx250_0
         replace hx250_1 := (cell_far (p := ⟨gb249, 2, none⟩) (by first | (rw [add_block]; exact hn250_2) | (show (Addr.add _ _).block ≠ _; rw [add_block]; exact hn250_2) | exact hn250_2) (.int .i64 ((rd_T40 l0_0 ((rd_T82 t239 x5_2).f0)).f2))).trans hx250_1
         replace hx250_0 := (cell_far (p := ⟨gb249, 3, none⟩) (by first | (rw [add_block]; exact hn250_3) | (show (Addr.add _ _).block ≠ _; rw [add_block]; exact hn250_3) | exact hn250_3) (.int .i64 ((rd_T40 l0_0 ((rd_T82 t239 x5_2).f0)).f3))).trans hx250_0
         replace hx250_1 := (cell_far (p := ⟨gb249, 3, none⟩) (by first | (rw [add_block]; exact hn250_3) | (show (Addr.add _ _).block ≠ _; rw [add_block]; exact hn250_3) | exact hn250_3) (.int .i64 ((rd_T40 l0_0 ((rd_T82 t239 x5_2).f0)).f3))).trans hx250_1
         clear hn250_0
         clear hn250_1
         clear hn250_2
         clear hn250_3
         replace p250 := eq_true p250
         replace q250 := eq_true q250
         go_wp2
         go_meet
         case rel => exact ⟨_, (true), (by first | rfl | (simp; done) | (simp [*]; done)), H', ⟨by have := HK1.out; have := HK2.out; first | omega | exact Nat.le_refl _⟩, ⟨by (with_reducible repeat (first | apply ZY | apply ZX | apply ZZ)); exact Kd.R_mono (Kd.R_far (p := ⟨gb249, 3, none⟩) (Kd.R_far (p := ⟨gb249, 2, none⟩) (Kd.R_far (p := ⟨gb249, 1, none⟩) (Kd.R_far (p := ⟨gb249, 0, none⟩) (Kd.R_types HO_3.out BK249.out (by decide)) (fun _ hk => hk.2) (.int .i64 ((rd_T40 l0_0 ((rd_T82 t239 x5_2).f0)).f0))) (fun _ hk => hk.2) (.int .i64 ((rd_T40 l0_0 ((rd_T82 t239 x5_2).f0)).f1))) (fun _ hk => hk.2) (.int .i64 ((rd_T40 l0_0 ((rd_T82 t239 x5_2).f0)).f2))) (fun _ hk => hk.2) (.int .i64 ((rd_T40 l0_0 ((rd_T82 t239 x5_2).f0)).f3))) (fun _ hk => trivial)⟩, ⟨by (with_reducible repeat (first | refine ZR ?_ _ | refine ZS ?_ | refine ZT ?_ _)); refine blk_far ?_ NB238_249.out _; (with_reducible repeat (first | refine ZR ?_ _ | refine ZS ?_ | refine ZT ?_ _)); refine blk_far ?_ NB238_249.out _; (with_reducible repeat (first | refine ZR ?_ _ | refine ZS ?_ | refine ZT ?_ _)); refine blk_far ?_ NB238_249.out _; (with_reducible repeat (first | refine ZR ?_ _ | refine ZS ?_ | refine ZT ?_ _)); refine blk_far ?_ NB238_249.out _; (with_reducible repeat (first | refine ZR ?_ _ | refine ZS ?_ | refine ZT ?_ _)); exact BK238.out⟩, ⟨by (with_reducible repeat (first | refine ZR ?_ _ | refine ZS ?_ | refine ZT ?_ _)); refine blk_put (cs := #[.int .i64 ((rd_T40 l0_0 ((rd_T82 t239 x5_2).f0)).f0), .int .i64 ((rd_T40 l0_0 ((rd_T82 t239 x5_2).f0)).f1), .int .i64 ((rd_T40 l0_0 ((rd_T82 t239 x5_2).f0)).f2), .int .i64 0]) ?_ 3 _ rfl; (with_reducible repeat (first | refine ZR ?_ _ | refine ZS ?_ | refine ZT ?_ _)); refine blk_put (cs := #[.int .i64 ((rd_T40 l0_0 ((rd_T82 t239 x5_2).f0)).f0), .int .i64 ((rd_T40 l0_0 ((rd_T82 t239 x5_2).f0)).f1), .int .i64 0, .int .i64 0]) ?_ 2 _ rfl; (with_reducible repeat (first | refine ZR ?_ _ | refine ZS ?_ | refine ZT ?_ _)); refine blk_put (cs := #[.int .i64 ((rd_T40 l0_0 ((rd_T82 t239 x5_2).f0)).f0), .int .i64 0, .int .i64 0, .int .i64 0]) ?_ 1 _ rfl; (with_reducible repeat (first | refine ZR ?_ _ | refine ZS ?_ | refine ZT ?_ _)); refine blk_put (cs := #[.int .i64 0, .int .i64 0, .int .i64 0, .int .i64 0]) ?_ 0 _ rfl; (with_reducible repeat (first | refine ZR ?_ _ | refine ZS ?_ | refine ZT ?_ _)); exact BK249.out⟩, ⟨ZBB HB.out⟩⟩
        ·rw [if_neg c33] at H
         have c33b0 : (((rd_T82 t239 x5_2).f1) == (-1)) = false := beq_eq_false_iff_ne.mpr c33
         have c33b1 : (((rd_T82 t239 x5_2).f1) != (-1)) = true := bne_iff_ne.mpr c33
         (first | rw [c33b0] | (simp only [i64_w, i32_w]; rw [c33b0]) | skip)
         by_cases c34 : ((rd_T40 l0_0 ((rd_T82 t239 x5_2).f0)).f0) = 6
         ·rw [if_pos c34] at H
          have c34b0 : (((rd_T40 l0_0 ((rd_T82 t239 x5_2).f0)).f0) == 6) = true := beq_iff_eq.mpr c34
          have c34b1 : (((rd_T40 l0_0 ((rd_T82 t239 x5_2).f0)).f0) != 6) = false := bne_eq_false_iff_eq.mpr c34
          clear c34
          have H' := ZM H
          clear H
          have p250 : 0 ≤ (x5_2 : Int) := ZOD
          have q250 : x5_2 < (t239.length : Int) := ZOD
          obtain ⟨ad250, e250, hx250_0, hx250_1⟩ := at_T82 (Kd.R_reads' HO_3.out).2.2 x5_2 p250 q250
          obtain rfl : ad247 = ad250 := (by injection e250)
          have hn250_0 : ad247.block ≠ gb249 := Kd.own_blk (Kd.R_ne HO_3.out BK249.out (by decide))
          have hn250_1 : ad247.block ≠ gb249 := Kd.own_blk (Kd.R_ne HO_3.out BK249.out (by decide))
          have hn250_2 : ad247.block ≠ gb249 := Kd.own_blk (Kd.R_ne HO_3.out BK249.out (by decide))
          have hn250_3 : ad247.block ≠ gb249 := Kd.own_blk (Kd.R_ne HO_3.out BK249.out (by decide))
          replace hx250_0 := (cell_far (p := ⟨gb249, 0, none⟩) (by first | (rw [add_block]; exact hn250_0) | (show (Addr.add _ _).block ≠ _; rw [add_block]; exact hn250_0) | exact hn250_0) (.int .i64 ((rd_T40 l0_0 ((rd_T82 t239 x5_2).f0)).f0))).trans hx250_0
          replace hx250_1 := (cell_far (p := ⟨gb249, 0, none⟩) (by first | (rw [add_block]; exact hn250_0) | (show (Addr.add _ _).block ≠ _; rw [add_block]; exact hn250_0) | exact hn250_0) (.int .i64 ((rd_T40 l0_0 ((rd_T82 t239 x5_2).f0)).f0))).trans hx250_1
          replace hx250_0 := (cell_far (p := ⟨gb249, 1, none⟩) (by first | (rw [add_block]; exact hn250_1) | (show (Addr.add _ _).block ≠ _; rw [add_block]; exact hn250_1) | exact hn250_1) (.int .i64 ((rd_T40 l0_0 ((rd_T82 t239 x5_2).f0)).f1))).trans hx250_0
          replace hx250_1 := (cell_far (p := ⟨gb249, 1, none⟩) (by first | (rw [add_block]; exact hn250_1) | (show (Addr.add _ _).block ≠ _; rw [add_block]; exact hn250_1) | exact hn250_1) (.int .i64 ((rd_T40 l0_0 ((rd_T82 t239 x5_2).f0)).f1))).trans hx250_1
          replace hx250_0 := (cell_far (p := ⟨gb249, 2, none⟩) (by first | (rw [add_block]; exact hn250_2) | (show (Addr.add _ _).block ≠ _; rw [add_block]; exact hn250_2) | exact hn250_2) (.int .i64 ((rd_T40 l0_0 ((rd_T82 t239 x5_2).f0)).f2))).trans hx250_0
          replace hx250_1 := (cell_far (p := ⟨gb249, 2, none⟩) (by first | (rw [add_block]; exact hn250_2) | (show (Addr.add _ _).block ≠ _; rw [add_block]; exact hn250_2) | exact hn250_2) (.int .i64 ((rd_T40 l0_0 ((rd_T82 t239 x5_2).f0)).f2))).trans hx250_1
          replace hx250_0 := (cell_far (p := ⟨gb249, 3, none⟩) (by first | (rw [add_block]; exact hn250_3) | (show (Addr.add _ _).block ≠ _; rw [add_block]; exact hn250_3) | exact hn250_3) (.int .i64 ((rd_T40 l0_0 ((rd_T82 t239 x5_2).f0)).f3))).trans hx250_0
          replace hx250_1 := (cell_far (p := ⟨gb249, 3, none⟩) (by first | (rw [add_block]; exact hn250_3) | (show (Addr.add _ _).block ≠ _; rw [add_block]; exact hn250_3) | exact hn250_3) (.int .i64 ((rd_T40 l0_0 ((rd_T82 t239 x5_2).f0)).f3))).trans hx250_1
          clear hn250_0
          clear hn250_1
          clear hn250_2
          clear hn250_3
          replace p250 := eq_true p250
          replace q250 := eq_true q250
          have hnb35 := NB249_238.out
          have hnc35 := NB238_249.out
          have hcz36_0 : w28.cell? ⟨gb249, 0, none⟩ = some (.int .i64 0) := (ZG BK249.out 0).trans rfl
          have hcz36_1 : w28.cell? ⟨gb249, 1, none⟩ = some (.int .i64 0) := (ZG BK249.out 1).trans rfl
          have hcz36_2 : w28.cell? ⟨gb249, 2, none⟩ = some (.int .i64 0) := (ZG BK249.out 2).trans rfl
          have hcz36_3 : w28.cell? ⟨gb249, 3, none⟩ = some (.int .i64 0) := (ZG BK249.out 3).trans rfl
          have hfz36_0 := ZF BK249.out 0
          have hfz36_1 := ZF BK249.out 1
          have hfz36_2 := ZF BK249.out 2
          have hfz36_3 := ZF BK249.out 3
          go_wp2
          go_meet
          case rel => exact ⟨_, (false), (by first | rfl | (simp; done) | (simp [*]; done)), H', ⟨by have := HK1.out; have := HK2.out; first | omega | exact Nat.le_refl _⟩, ⟨by (with_reducible repeat (first | apply ZY | apply ZX | apply ZZ)); exact Kd.R_mono (Kd.R_far (p := ⟨gb249, 3, none⟩) (Kd.R_far (p := ⟨gb249, 2, none⟩) (Kd.R_far (p := ⟨gb249, 1, none⟩) (Kd.R_far (p := ⟨gb249, 0, none⟩) (Kd.R_types HO_3.out BK249.out (by decide)) (fun _ hk => hk.2) (.int .i64 ((rd_T40 l0_0 ((rd_T82 t239 x5_2).f0)).f0))) (fun _ hk => hk.2) (.int .i64 ((rd_T40 l0_0 ((rd_T82 t239 x5_2).f0)).f1))) (fun _ hk => hk.2) (.int .i64 ((rd_T40 l0_0 ((rd_T82 t239 x5_2).f0)).f2))) (fun _ hk => hk.2) (.int .i64 ((rd_T40 l0_0 ((rd_T82 t239 x5_2).f0)).f3))) (fun _ hk => trivial)⟩, ⟨by (with_reducible repeat (first | refine ZR ?_ _ | refine ZS ?_ | refine ZT ?_ _)); refine blk_far ?_ NB238_249.out _; (with_reducible repeat (first | refine ZR ?_ _ | refine ZS ?_ | refine ZT ?_ _)); refine blk_far ?_ NB238_249.out _; (with_reducible repeat (first | refine ZR ?_ _ | refine ZS ?_ | refine ZT ?_ _)); refine blk_far ?_ NB238_249.out _; (with_reducible repeat (first | refine ZR ?_ _ | refine ZS ?_ | refine ZT ?_ _)); refine blk_far ?_ NB238_249.out _; (with_reducible repeat (first | refine ZR ?_ _ | refine ZS ?_ | refine ZT ?_ _)); exact BK238.out⟩, ⟨by (with_reducible repeat (first | refine ZR ?_ _ | refine ZS ?_ | refine ZT ?_ _)); refine blk_put (cs := #[.int .i64 ((rd_T40 l0_0 ((rd_T82 t239 x5_2).f0)).f0), .int .i64 ((rd_T40 l0_0 ((rd_T82 t239 x5_2).f0)).f1), .int .i64 ((rd_T40 l0_0 ((rd_T82 t239 x5_2).f0)).f2), .int .i64 0]) ?_ 3 _ rfl; (with_reducible repeat (first | refine ZR ?_ _ | refine ZS ?_ | refine ZT ?_ _)); refine blk_put (cs := #[.int .i64 ((rd_T40 l0_0 ((rd_T82 t239 x5_2).f0)).f0), .int .i64 ((rd_T40 l0_0 ((rd_T82 t239 x5_2).f0)).f1), .int .i64 0, .int .i64 0]) ?_ 2 _ rfl; (with_reducible repeat (first | refine ZR ?_ _ | refine ZS ?_ | refine ZT ?_ _)); refine blk_put (cs := #[.int .i64 ((rd_T40 l0_0 ((rd_T82 t239 x5_2).f0)).f0), .int .i64 0, .int .i64 0, .int .i64 0]) ?_ 1 _ rfl; (with_reducible repeat (first | refine ZR ?_ _ | refine ZS ?_ | refine ZT ?_ _)); refine blk_put (cs := #[.int .i64 0, .int .i64 0, .int .i64 0, .int .i64 0]) ?_ 0 _ rfl; (with_reducible repeat (first | refine ZR ?_ _ | refine ZS ?_ | refine ZT ?_ _)); exact BK249.out⟩, ⟨ZBB HB.out⟩⟩
         ·rw [if_neg c34] at H
          have c34b0 : (((rd_T40 l0_0 ((rd_T82 t239 x5_2).f0)).f0) == 6) = false := beq_eq_false_iff_ne.mpr c34
          have c34b1 : (((rd_T40 l0_0 ((rd_T82 t239 x5_2).f0)).f0) != 6) = true := bne_iff_ne.mpr c34
          have H' := ZM H
          clear H
          have p250 : 0 ≤ (x5_2 : Int) := ZOD
          have q250 : x5_2 < (t239.length : Int) := ZOD
          obtain ⟨ad250, e250, hx250_0, hx250_1⟩ := at_T82 (Kd.R_reads' HO_3.out).2.2 x5_2 p250 q250
          obtain rfl : ad247 = ad250 := (by injection e250)
          have hn250_0 : ad247.block ≠ gb249 := Kd.own_blk (Kd.R_ne HO_3.out BK249.out (by decide))
          have hn250_1 : ad247.block ≠ gb249 := Kd.own_blk (Kd.R_ne HO_3.out BK249.out (by decide))
          have hn250_2 : ad247.block ≠ gb249 := Kd.own_blk (Kd.R_ne HO_3.out BK249.out (by decide))
          have hn250_3 : ad247.block ≠ gb249 := Kd.own_blk (Kd.R_ne HO_3.out BK249.out (by decide))
          replace hx250_0 := (cell_far (p := ⟨gb249, 0, none⟩) (by first | (rw [add_block]; exact hn250_0) | (show (Addr.add _ _).block ≠ _; rw [add_block]; exact hn250_0) | exact hn250_0) (.int .i64 ((rd_T40 l0_0 ((rd_T82 t239 x5_2).f0)).f0))).trans hx250_0
          replace hx250_1 := (cell_far (p := ⟨gb249, 0, none⟩) (by first | (rw [add_block]; exact hn250_0) | (show (Addr.add _ _).block ≠ _; rw [add_block]; exact hn250_0) | exact hn250_0) (.int .i64 ((rd_T40 l0_0 ((rd_T82 t239 x5_2).f0)).f0))).trans hx250_1
          replace hx250_0 := (cell_far (p := ⟨gb249, 1, none⟩) (by first | (rw [add_block]; exact hn250_1) | (show (Addr.add _ _).block ≠ _; rw [add_block]; exact hn250_1) | exact hn250_1) (.int .i64 ((rd_T40 l0_0 ((rd_T82 t239 x5_2).f0)).f1))).trans hx250_0
          replace hx250_1 := (cell_far (p := ⟨gb249, 1, none⟩) (by first | (rw [add_block]; exact hn250_1) | (show (Addr.add _ _).block ≠ _; rw [add_block]; exact hn250_1) | exact hn250_1) (.int .i64 ((rd_T40 l0_0 ((rd_T82 t239 x5_2).f0)).f1))).trans hx250_1
          replace hx250_0 := (cell_far (p := ⟨gb249, 2, none⟩) (by first | (rw [add_block]; exact hn250_2) | (show (Addr.add _ _).block ≠ _; rw [add_block]; exact hn250_2) | exact hn250_2) (.int .i64 ((rd_T40 l0_0 ((rd_T82 t239 x5_2).f0)).f2))).trans hx250_0
          replace hx250_1 := (cell_far (p := ⟨gb249, 2, none⟩) (by first | (rw [add_block]; exact hn250_2) | (show (Addr.add _ _).block ≠ _; rw [add_block]; exact hn250_2) | exact hn250_2) (.int .i64 ((rd_T40 l0_0 ((rd_T82 t239 x5_2).f0)).f2))).trans hx250_1
          replace hx250_0 := (cell_far (p := ⟨gb249, 3, none⟩) (by first | (rw [add_block]; exact hn250_3) | (show (Addr.add _ _).block ≠ _; rw [add_block]; exact hn250_3) | exact hn250_3) (.int .i64 ((rd_T40 l0_0 ((rd_T82 t239 x5_2).f0)).f3))).trans hx250_0
          replace hx250_1 := (cell_far (p := ⟨gb249, 3, none⟩) (by first | (rw [add_block]; exact hn250_3) | (show (Addr.add _ _).block ≠ _; rw [add_block]; exact hn250_3) | exact hn250_3) (.int .i64 ((rd_T40 l0_0 ((rd_T82 t239 x5_2).f0)).f3))).trans hx250_1
          clear hn250_0
          clear hn250_1
          clear hn250_2
          clear hn250_3
          replace p250 := eq_true p250
          replace q250 := eq_true q250
          have hnb37 := NB249_238.out
          have hnc37 := NB238_249.out
          have hcz38_0 : w28.cell? ⟨gb249, 0, none⟩ = some (.int .i64 0) := (ZG BK249.out 0).trans rfl
          have hcz38_1 : w28.cell? ⟨gb249, 1, none⟩ = some (.int .i64 0) := (ZG BK249.out 1).trans rfl
          have hcz38_2 : w28.cell? ⟨gb249, 2, none⟩ = some (.int .i64 0) := (ZG BK249.out 2).trans rfl
          have hcz38_3 : w28.cell? ⟨gb249, 3, none⟩ = some (.int .i64 0) := (ZG BK249.out 3).trans rfl
          have hfz38_0 := ZF BK249.out 0
          have hfz38_1 := ZF BK249.out 1
          have hfz38_2 := ZF BK249.out 2
          have hfz38_3 := ZF BK249.out 3
          go_wp2
          go_meet
          case rel => exact ⟨_, ((((rd_T40 l0_0 ((rd_T82 t239 x5_2).f0)).f0) != 7)), (by first | rfl | (simp; done) | (simp [*]; done)), H', ⟨by have := HK1.out; have := HK2.out; first | omega | exact Nat.le_refl _⟩, ⟨by (with_reducible repeat (first | apply ZY | apply ZX | apply ZZ)); exact Kd.R_mono (Kd.R_far (p := ⟨gb249, 3, none⟩) (Kd.R_far (p := ⟨gb249, 2, none⟩) (Kd.R_far (p := ⟨gb249, 1, none⟩) (Kd.R_far (p := ⟨gb249, 0, none⟩) (Kd.R_types HO_3.out BK249.out (by decide)) (fun _ hk => hk.2) (.int .i64 ((rd_T40 l0_0 ((rd_T82 t239 x5_2).f0)).f0))) (fun _ hk => hk.2) (.int .i64 ((rd_T40 l0_0 ((rd_T82 t239 x5_2).f0)).f1))) (fun _ hk => hk.2) (.int .i64 ((rd_T40 l0_0 ((rd_T82 t239 x5_2).f0)).f2))) (fun _ hk => hk.2) (.int .i64 ((rd_T40 l0_0 ((rd_T82 t239 x5_2).f0)).f3))) (fun _ hk => trivial)⟩, ⟨by (with_reducible repeat (first | refine ZR ?_ _ | refine ZS ?_ | refine ZT ?_ _)); refine blk_far ?_ NB238_249.out _; (with_reducible repeat (first | refine ZR ?_ _ | refine ZS ?_ | refine ZT ?_ _)); refine blk_far ?_ NB238_249.out _; (with_reducible repeat (first | refine ZR ?_ _ | refine ZS ?_ | refine ZT ?_ _)); refine blk_far ?_ NB238_249.out _; (with_reducible repeat (first | refine ZR ?_ _ | refine ZS ?_ | refine ZT ?_ _)); refine blk_far ?_ NB238_249.out _; (with_reducible repeat (first | refine ZR ?_ _ | refine ZS ?_ | refine ZT ?_ _)); exact BK238.out⟩, ⟨by (with_reducible repeat (first | refine ZR ?_ _ | refine ZS ?_ | refine ZT ?_ _)); refine blk_put (cs := #[.int .i64 ((rd_T40 l0_0 ((rd_T82 t239 x5_2).f0)).f0), .int .i64 ((rd_T40 l0_0 ((rd_T82 t239 x5_2).f0)).f1), .int .i64 ((rd_T40 l0_0 ((rd_T82 t239 x5_2).f0)).f2), .int .i64 0]) ?_ 3 _ rfl; (with_reducible repeat (first | refine ZR ?_ _ | refine ZS ?_ | refine ZT ?_ _)); refine blk_put (cs := #[.int .i64 ((rd_T40 l0_0 ((rd_T82 t239 x5_2).f0)).f0), .int .i64 ((rd_T40 l0_0 ((rd_T82 t239 x5_2).f0)).f1), .int .i64 0, .int .i64 0]) ?_ 2 _ rfl; (with_reducible repeat (first | refine ZR ?_ _ | refine ZS ?_ | refine ZT ?_ _)); refine blk_put (cs := #[.int .i64 ((rd_T40 l0_0 ((rd_T82 t239 x5_2).f0)).f0), .int .i64 0, .int .i64 0, .int .i64 0]) ?_ 1 _ rfl; (with_reducible repeat (first | refine ZR ?_ _ | refine ZS ?_ | refine ZT ?_ _)); refine blk_put (cs := #[.int .i64 0, .int .i64 0, .int .i64 0, .int .i64 0]) ?_ 0 _ rfl; (with_reducible repeat (first | refine ZR ?_ _ | refine ZS ?_ | refine ZT ?_ _)); exact BK249.out⟩, ⟨ZBB HB.out⟩⟩
       case rest =>
        clear HC26
        try clear c6
        try clear c6b0
        try clear c7
        try clear c7b0
        try clear c8
        try clear c8b0
        try clear c8b1
        try clear c12
        try clear c12b0
        try clear c12b1
        try clear c22
        try clear c22b0
        try clear c23
        try clear c23b0
        try clear c24
        try clear c24b0
        try clear c25
        try clear c25b0
        try clear c33
        try clear c33b0
        try clear c33b1
        try clear c34
        try clear c34b0
        try clear c34b1
        try clear hcz36_0
        try clear hcz36_1
        try clear hcz36_2
        try clear hcz36_3
        try clear hcz38_0
        try clear hcz38_1
        try clear hcz38_2
        try clear hcz38_3
        try clear hcz4_0
        try clear hcz4_1
        try clear hfz36_0
        try clear hfz36_1
        try clear hfz36_2
        try clear hfz36_3
        try clear hfz38_0
        try clear hfz38_1
        try clear hfz38_2
        try clear hfz38_3
        try clear hfz4_0
        try clear hfz4_1
        try clear hx242_0
        try clear hx242_1
        try clear hx243_0
        try clear hx243_1
        try clear hx247_0
        try clear hx247_1
        try clear hx248_0
        try clear hx248_1
        try clear hx248_2
        try clear hx248_3
        try clear hx250_0
        try clear hx250_1
        try clear p242
        try clear p243
        try clear p247
        try clear p248
        try clear p250
        try clear q242
        try clear q243
        try clear q247
        try clear q248
        try clear q250
        obtain ⟨kq, x62_25, rfl, HA, HJ25, HO_3, BK238, BK249, HB⟩ := hcut
        cases kq with
        | zero => exact absurd HA.out (by simp [meanderref09_ports.j2])
        | succ kj25 =>
         have H := HA.out
         clear HA
         simp only [meanderref09_ports.j2] at H
         by_cases c39 : x62_25 = true
         ·subst c39
          have H1 : (meanderref09_ports.l1 kj25 t239 (wrap64 (x5_2 + 1)) l0_0 l0_1) = some r := by rw [if_pos rfl] at H; exact H
          clear H
          have H := H1
          clear H1
          have H' := ZM H
          clear H
          go_wp2
          go_roundg kj25
          case measure => have := HK1.out; have := HK2.out; have := HJ25.out; omega
          case rel => exact ⟨(wrap64 (x5_2 + 1)), (by first | rfl | (simp; done) | (simp [*]; done)), H', ⟨by have := HK1.out; have := HK2.out; have := HJ25.out; omega⟩, ⟨ZRK HO_3.out⟩, ⟨ZBK BK238.out⟩, ⟨ZBB HB.out⟩⟩
         ·replace c39 := Bool.eq_false_iff.mpr c39
          subst c39
          have H1 : (if 0 ≤ x5_2 then (if x5_2 < (t239.length : Int) then ((meanderref08_Prev.f kj25 l0_0 l0_1 ((rd_T82 t239 x5_2).f0) ((rd_T82 t239 x5_2).f1)).bind fun t252 => (if 0 < (t252.length : Int) then (if 0 ≤ (rd t252 0) then (if (rd t252 0) < (l0_0.length : Int) then (if ((rd_T40 l0_0 (rd t252 0)).f0) = 5 then (meanderref09_ports.l1 kj25 t239 (wrap64 (x5_2 + 1)) l0_0 l0_1) else (some 15)) else (none)) else (none)) else (none))) else (none)) else (none)) = some r := by rw [if_neg (show ¬ (false = true) by decide)] at H; exact H
          clear H
          have H := H1
          clear H1
          by_cases c40 : 0 ≤ x5_2
          case neg =>
           rw [if_neg c40] at H
           exact absurd H (by simp)
          rw [if_pos c40] at H
          have c40b0 : decide (0 ≤ x5_2) = true := decide_eq_true c40
          clear c40
          by_cases c41 : x5_2 < (t239.length : Int)
          case neg =>
           rw [if_neg c41] at H
           exact absurd H (by simp)
          rw [if_pos c41] at H
          have c41b0 : decide (x5_2 < (t239.length : Int)) = true := decide_eq_true c41
          clear c41
          replace H := Option.bind_eq_some_iff.mp H
          obtain ⟨t252, A420, H⟩ := H
          replace H : (if 0 < (t252.length : Int) then (if 0 ≤ (rd t252 0) then (if (rd t252 0) < (l0_0.length : Int) then (if ((rd_T40 l0_0 (rd t252 0)).f0) = 5 then (meanderref09_ports.l1 kj25 t239 (wrap64 (x5_2 + 1)) l0_0 l0_1) else (some 15)) else (none)) else (none)) else (none)) = some r := H
          have A42 := ZM A420
          clear A420
          by_cases c43 : 0 < (t252.length : Int)
          case neg =>
           rw [if_neg c43] at H
           exact absurd H (by simp)
          rw [if_pos c43] at H
          have c43b0 : decide (0 < (t252.length : Int)) = true := decide_eq_true c43
          have c43b1 : decide (0 < t252.length) = true := decide_eq_true (by omega)
          clear c43
          by_cases c44 : 0 ≤ (rd t252 0)
          case neg =>
           rw [if_neg c44] at H
           exact absurd H (by simp)
          rw [if_pos c44] at H
          have c44b0 : decide (0 ≤ (rd t252 0)) = true := decide_eq_true c44
          clear c44
          by_cases c45 : (rd t252 0) < (l0_0.length : Int)
          case neg =>
           rw [if_neg c45] at H
           exact absurd H (by simp)
          rw [if_pos c45] at H
          have c45b0 : decide ((rd t252 0) < (l0_0.length : Int)) = true := decide_eq_true c45
          clear c45
          by_cases c46 : ((rd_T40 l0_0 (rd t252 0)).f0) = 5
          ·rw [if_pos c46] at H
           have c46b0 : (((rd_T40 l0_0 (rd t252 0)).f0) == 5) = true := beq_iff_eq.mpr c46
           have c46b1 : (((rd_T40 l0_0 (rd t252 0)).f0) != 5) = false := bne_eq_false_iff_eq.mpr c46
           clear c46
           have H' := ZM H
           clear H
           try go_wp2
           have n0_ := ZM (ZZ HO_3.out)
           have n1_ := ZM (ZS BK238.out)
           have n2_ := ZM (ZS BK249.out)
           have n3_ := ZM (ZP HB.out)
           clear HO_3
           clear BK238
           clear BK249
           clear HB
           have HO_3 := n0_
           have BK238 := n1_
           have BK249 := n2_
           have HB := n3_
           clear n0_ n1_ n2_ n3_
           have p251 : 0 ≤ (x5_2 : Int) := ZOD
           have q251 : x5_2 < (t239.length : Int) := ZOD
           obtain ⟨ad251, e251, hx251_0, hx251_1⟩ := at_T82 (Kd.R_reads' HO_3.out).2.2 x5_2 p251 q251
           obtain rfl : ad247 = ad251 := (by injection e251)
           replace p251 := eq_true p251
           replace q251 := eq_true q251
           refine start_ (n := 7) (S := fun w' => w'.cell? ⟨gb238, 0, none⟩ = some (.slice (some ad248) l0_0.length c0_0) ∧ w'.cell? ⟨gb238, 1, none⟩ = some (.slice A0_1 l0_1.length c0_1) ∧ w'.cell? (ad247.add ((x5_2).toNat * 2)) = some (.int .i64 ((rd_T82 t239 x5_2).f0)) ∧ w'.cell? ⟨(ad247.add ((x5_2).toNat * 2)).block, (ad247.add ((x5_2).toNat * 2)).off + 1, none⟩ = some (.int .i64 ((rd_T82 t239 x5_2).f1))) (ds := []) #[false, false, false, false, false, false, false] (by kernel_rfl) rfl rfl ⟨(ZG BK238.out 0).trans rfl, (ZG BK238.out 1).trans rfl, hx251_0, hx251_1⟩ (fun hHeld => ?_)
           generalize wc.drew = w47 at HO_3 BK238 BK249 HB hx251_0 hx251_1 hHeld ⊢
           refine pure_ (i := 1) (N := some 64) (v := ?_) (a' := ?_) (ZB 7 2) rfl rfl (by kernel_rfl) (fun _ _ _ h => h) (Or.inl ⟨by rfl, ?_⟩) ?_ ?_
           rotate_left
           ·intro w'; go_simp; with_reducible rfl
           rotate_left
           ·simp only [Act.put, ZI, ZJ, ZK, i64_w, i32_w]; rfl
           refine pure_ (i := 2) (N := some 65) (v := ?_) (a' := ?_) (ZB 7 6) rfl rfl (by kernel_rfl) (fun _ _ _ h => h) (Or.inl ⟨by rfl, ?_⟩) ?_ ?_
           rotate_left
           ·intro w'; go_simp; with_reducible rfl
           rotate_left
           ·simp only [Act.put, ZI, ZJ, ZK, i64_w, i32_w]; rfl
           refine pure_ (i := 3) (N := some 66) (v := ?_) (a' := ?_) (ZB 7 14) rfl rfl (by kernel_rfl) (fun _ _ _ h => h) (Or.inl ⟨by rfl, ?_⟩) ?_ ?_
           rotate_left
           ·intro w'; go_simp; with_reducible rfl
           rotate_left
           ·simp only [Act.put, ZI, ZJ, ZK, i64_w, i32_w]; rfl
           refine take_ (i := 0) (N := some 63) (v := ?_) (a' := ?_) (ZB 7 15) rfl rfl (by kernel_rfl) (fun _ _ _ h => h) (Or.inl ⟨by rfl, ?_⟩) hHeld ?_ ?_
           rotate_left
           ·rintro w' ⟨s0, s1, s2, s3⟩
            go_simp
            with_reducible rfl
           rotate_left
           ·simp only [Act.put, ZI, ZJ, ZK, i64_w, i32_w]; rfl
           refine take_ (i := 4) (N := some 67) (v := ?_) (a' := ?_) (ZB 7 31) rfl rfl (by kernel_rfl) (fun _ _ _ h => h) (Or.inl ⟨by rfl, ?_⟩) hHeld ?_ ?_
           rotate_left
           ·rintro w' ⟨s0, s1, s2, s3⟩
            go_simp
            with_reducible rfl
           rotate_left
           ·simp only [Act.put, ZI, ZJ, ZK, i64_w, i32_w]; rfl
           refine one_ (i := 5) (N := some 68) (ZB 7 63) rfl rfl (by kernel_rfl) (by decide) (fun K hK => ?_)
           refine goes_ Tryd.func47 (by kernel_rfl) rfl #[.agg #[.slice (some ad248) l0_0.length c0_0, .slice A0_1 l0_1.length c0_1], .agg #[.int .i64 ((rd_T82 t239 x5_2).f0), .int .i64 ((rd_T82 t239 x5_2).f1)]] (by rfl) rfl rfl ZH ?_
           with_reducible refine (meanderref08_Prev.calls kj25 _ _ l0_0 _ _ l0_1 ((rd_T82 t239 x5_2).f0) ((rd_T82 t239 x5_2).f1) t252 _ ?side1 ?side2 ?side3 ?side4 A42.out).mono ?_
           (case side1 => repeat (first | exact (Kd.C_below HR0_0.out HB.out) | (with_reducible refine Kd.C_alloc ?_ _) | (with_reducible refine Kd.C_drewN ?_ _) | (with_reducible refine Kd.C_drew ?_)))
           (case side2 => exact HC0_0.out)
           (case side3 => repeat (first | exact (Kd.C_below HR0_1.out HB.out) | (with_reducible refine Kd.C_alloc ?_ _) | (with_reducible refine Kd.C_drewN ?_ _) | (with_reducible refine Kd.C_drew ?_)))
           (case side4 => exact HC0_1.out)
           rintro e w48 ⟨v253, rfl, ho0, hb⟩
           have HS2_ := (hb.cell (ZC _ _ (hHeld.2.2.1))).trans (hHeld.2.2.1)
           have HS3_ := (hb.cell (ZC _ _ (hHeld.2.2.2))).trans (hHeld.2.2.2)
           refine ⟨_, rfl, ?_⟩
           have n0_ := ZM (Kd.R_below (ZRK HO_3.out) hb)
           have n1_ := ZM (Kd.R_lower ho0 (ZV (ZBB HB.out)))
           have n2_ := ZM (blk_below (g := gb238) (o := .cells #[.slice (some ad248) l0_0.length c0_0, .slice A0_1 l0_1.length c0_1] 27 (0, 0)) (ZBK BK238.out) hb)
           have n3_ := ZM (blk_below (g := gb249) (o := .cells #[.int .i64 ((rd_T40 l0_0 ((rd_T82 t239 x5_2).f0)).f0), .int .i64 ((rd_T40 l0_0 ((rd_T82 t239 x5_2).f0)).f1), .int .i64 ((rd_T40 l0_0 ((rd_T82 t239 x5_2).f0)).f2), .int .i64 ((rd_T40 l0_0 ((rd_T82 t239 x5_2).f0)).f3)] 40 (0, 0)) (ZBK BK249.out) hb)
           have n4_ := ZM (ZW (ZBB HB.out) hb)
           clear HO_3
           clear BK238
           clear BK249
           clear HB
           have HO_3 := n0_
           have HO254 := n1_
           have BK238 := n2_
           have BK249 := n3_
           have HB := n4_
           clear n0_ n1_ n2_ n3_ n4_
           (try clear hb)
           (try clear hb2)
           (try clear hk)
           (try clear hi)
           (try clear ho0)
           refine hK.out _ _ ⟨(ZG BK238.out 0).trans rfl, (ZG BK238.out 1).trans rfl, HS2_, HS3_⟩ (fun hHeld => ?_)
           clear hK K
           refine norm_ (a' := ?_) ?_ ?_
           rotate_left
           ·show Act.put _ (some 68) _ = _
            simp only [Act.put, ZI, ZJ, ZK, i64_w, i32_w]
            rfl
           refine pure_ (i := 6) (N := some 7) (v := ?_) (a' := ?_) (ZB 7 127) rfl rfl (by kernel_rfl) (fun _ _ _ h => h) (Or.inl ⟨by rfl, ?_⟩) ?_ ?_
           rotate_left
           ·intro w'; go_simp; with_reducible rfl
           rotate_left
           ·simp only [Act.put, ZI, ZJ, ZK, i64_w, i32_w]; rfl
           refine done_ (by kernel_rfl) ?_
           try go_wp2
           have n0_ := ZM (ZZ HO_3.out)
           have n1_ := ZM (ZZ HO254.out)
           have n2_ := ZM (ZS BK238.out)
           have n3_ := ZM (ZS BK249.out)
           have n4_ := ZM (ZP HB.out)
           clear HO_3
           clear HO254
           clear BK238
           clear BK249
           clear HB
           have HO_3 := n0_
           have HO254 := n1_
           have BK238 := n2_
           have BK249 := n3_
           have HB := n4_
           clear n0_ n1_ n2_ n3_ n4_
           obtain ⟨Ao50, co50, eo50⟩ := Kd.R_slice HO254.out
           (first | subst eo50 | (injection eo50 with f1_ f2_ f3_; have f4_ := f1_.symm; have f5_ := f3_.symm; clear f1_ f2_ f3_; subst f4_; subst f5_))
           have p255 : 0 ≤ (0 : Int) := (by omega)
           have q255 : 0 < (t252.length : Int) := ZOD
           obtain ⟨ad255, e255, hx255_0⟩ := Kd.at_int (Kd.R_reads' HO254.out).2.2 0 p255 q255
           cases e255
           have qi255 : (0 < t252.length) = True := eq_true (by omega)
           (try rw [show ((0 : Int)).toNat = 0 from rfl] at hx255_0)
           (try rw [Addr.add_zero'] at hx255_0)
           replace p255 := eq_true p255
           replace q255 := eq_true q255
           have p256 : 0 ≤ ((rd t252 0) : Int) := ZOD
           have q256 : (rd t252 0) < (l0_0.length : Int) := ZOD
           obtain ⟨ad256, e256, hx256_0, hx256_1, hx256_2, hx256_3⟩ := at_T40 HR0_0.out (rd t252 0) p256 q256
           have hw256_3 := hx256_3
           have hw256_2 := hx256_2
           have hw256_1 := hx256_1
           have hw256_0 := hx256_0
           obtain rfl : ad248 = ad256 := (by injection e256)
           replace hx256_0 := (HB.out.cell (ZC w _ hx256_0)).trans hx256_0
           replace hx256_1 := (HB.out.cell (ZC w _ hx256_1)).trans hx256_1
           replace hx256_2 := (HB.out.cell (ZC w _ hx256_2)).trans hx256_2
           replace hx256_3 := (HB.out.cell (ZC w _ hx256_3)).trans hx256_3
           replace p256 := eq_true p256
           replace q256 := eq_true q256
           refine start_ (n := 9) (S := fun w' => w'.cell? ⟨gb238, 0, none⟩ = some (.slice (some ad248) l0_0.length c0_0) ∧ w'.cell? ⟨gb238, 1, none⟩ = some (.slice A0_1 l0_1.length c0_1) ∧ w'.cell? ad255 = some (.int .i64 (rd t252 0)) ∧ w'.cell? (ad248.add (((rd t252 0)).toNat * 4)) = some (.int .i64 ((rd_T40 l0_0 (rd t252 0)).f0)) ∧ w'.cell? ⟨(ad248.add (((rd t252 0)).toNat * 4)).block, (ad248.add (((rd t252 0)).toNat * 4)).off + 1, none⟩ = some (.int .i64 ((rd_T40 l0_0 (rd t252 0)).f1)) ∧ w'.cell? ⟨(ad248.add (((rd t252 0)).toNat * 4)).block, (ad248.add (((rd t252 0)).toNat * 4)).off + 2, none⟩ = some (.int .i64 ((rd_T40 l0_0 (rd t252 0)).f2)) ∧ w'.cell? ⟨(ad248.add (((rd t252 0)).toNat * 4)).block, (ad248.add (((rd t252 0)).toNat * 4)).off + 3, none⟩ = some (.int .i64 ((rd_T40 l0_0 (rd t252 0)).f3))) (ds := []) #[false, false, false, false, false, false, false, false, false] (by kernel_rfl) rfl rfl ⟨(ZG BK238.out 0).trans rfl, (ZG BK238.out 1).trans rfl, hx255_0, ((HB.out.cell (ZC w _ hw256_0)).trans hw256_0), ((HB.out.cell (ZC w _ hw256_1)).trans hw256_1), ((HB.out.cell (ZC w _ hw256_2)).trans hw256_2), ((HB.out.cell (ZC w _ hw256_3)).trans hw256_3)⟩ (fun hHeld => ?_); refine with_tabW meanderref09_ports.tab13 meanderref09_ports.bits13 (fun HT_ HW_ => ?_)
           generalize w48.drew = w49 at HO_3 HO254 BK238 BK249 HB hx255_0 hx256_0 hx256_1 hx256_2 hx256_3 hHeld ⊢
           refine pure_ (i := 0) (N := some 69) (v := ?_) (a' := ?_) (ZB 9 1) rfl rfl (any_of HT_.out (by kernel_rfl)) (fun _ _ _ h => h) (Or.inl ⟨by rfl, ?_⟩) ?_ ?_
           rotate_left
           ·intro w'; go_simp; with_reducible rfl
           rotate_left
           ·simp only [Act.put, ZI, ZJ, ZK, i64_w, i32_w]; rfl
           refine pure_ (i := 2) (N := some 71) (v := ?_) (a' := ?_) (ZB 9 5) rfl rfl (any_of HT_.out (by kernel_rfl)) (fun _ _ _ h => h) (Or.inl ⟨by rfl, ?_⟩) ?_ ?_
           rotate_left
           ·intro w'; go_simp; with_reducible rfl
           rotate_left
           ·simp only [Act.put, ZI, ZJ, ZK, i64_w, i32_w]; rfl
           refine pure_ (i := 3) (N := some 72) (v := ?_) (a' := ?_) (ZB 9 13) rfl rfl (any_of HT_.out (by kernel_rfl)) (fun _ _ _ h => h) (Or.inl ⟨by rfl, ?_⟩) ?_ ?_
           rotate_left
           ·intro w'; go_simp; with_reducible rfl
           rotate_left
           ·simp only [Act.put, ZI, ZJ, ZK, i64_w, i32_w]; rfl
           refine take_ (i := 1) (N := some 70) (v := ?_) (a' := ?_) (ZB 9 15) rfl rfl (take_ofW HT_.out HW_.out (by kernel_rfl)) (fun _ _ _ h => h) (Or.inl ⟨by rfl, ?_⟩) hHeld ?_ ?_
           rotate_left
           ·rintro w' ⟨s0, s1, s2, s3, s4, s5, s6⟩
            go_simp
            with_reducible rfl
           rotate_left
           ·simp only [Act.put, ZI, ZJ, ZK, i64_w, i32_w]; rfl
           refine take_ (i := 4) (N := some 73) (v := ?_) (a' := ?_) (ZB 9 31) rfl rfl (take_ofW HT_.out HW_.out (by kernel_rfl)) (fun _ _ _ h => h) (Or.inl ⟨by rfl, ?_⟩) hHeld ?_ ?_
           rotate_left
           ·rintro w' ⟨s0, s1, s2, s3, s4, s5, s6⟩
            go_simp
            with_reducible rfl
           rotate_left
           ·simp only [Act.put, ZI, ZJ, ZK, i64_w, i32_w]; rfl
           refine pure_ (i := 5) (N := some 74) (v := ?_) (a' := ?_) (ZB 9 63) rfl rfl (any_of HT_.out (by kernel_rfl)) (fun _ _ _ h => h) (Or.inl ⟨by rfl, ?_⟩) ?_ ?_
           rotate_left
           ·intro w'; go_simp; with_reducible rfl
           rotate_left
           ·simp only [Act.put, ZI, ZJ, ZK, i64_w, i32_w]; rfl
           refine pure_ (i := 6) (N := some 75) (v := ?_) (a' := ?_) (ZB 9 127) rfl rfl (any_of HT_.out (by kernel_rfl)) (fun _ _ _ h => h) (Or.inl ⟨by rfl, ?_⟩) ?_ ?_
           rotate_left
           ·intro w'; go_simp; with_reducible rfl
           rotate_left
           ·simp only [Act.put, ZI, ZJ, ZK, i64_w, i32_w]; rfl
           refine take_ (i := 7) (N := some 76) (v := ?_) (a' := ?_) (ZB 9 255) rfl rfl (take_ofW HT_.out HW_.out (by kernel_rfl)) (fun _ _ _ h => h) (Or.inl ⟨by rfl, ?_⟩) hHeld ?_ ?_
           rotate_left
           ·rintro w' ⟨s0, s1, s2, s3, s4, s5, s6⟩
            go_simp
            with_reducible rfl
           rotate_left
           ·simp only [Act.put, ZI, ZJ, ZK, i64_w, i32_w]; rfl
           refine pure_ (i := 8) (N := some 77) (v := ?_) (a' := ?_) (ZB 9 511) rfl rfl (any_of HT_.out (by kernel_rfl)) (fun _ _ _ h => h) (Or.inl ⟨by rfl, ?_⟩) ?_ ?_
           rotate_left
           ·intro w'; go_simp; with_reducible rfl
           rotate_left
           ·simp only [Act.put, ZI, ZJ, ZK, i64_w, i32_w]; rfl
           refine done_ (done_of HT_.out (by kernel_rfl)) ?_
           try go_wp2
           go_roundg kj25
           case measure => have := HK1.out; have := HK2.out; have := HJ25.out; omega
           case rel => exact ⟨(wrap64 (x5_2 + 1)), (by first | rfl | (simp; done) | (simp [*]; done)), H', ⟨by have := HK1.out; have := HK2.out; have := HJ25.out; omega⟩, ⟨ZRK HO_3.out⟩, ⟨ZBK BK238.out⟩, ⟨ZBB HB.out⟩⟩
          ·rw [if_neg c46] at H
           have c46b0 : (((rd_T40 l0_0 (rd t252 0)).f0) == 5) = false := beq_eq_false_iff_ne.mpr c46
           have c46b1 : (((rd_T40 l0_0 (rd t252 0)).f0) != 5) = true := bne_iff_ne.mpr c46
           obtain rfl := Option.some.inj H
           try go_wp2
           have n0_ := ZM (ZZ HO_3.out)
           have n1_ := ZM (ZS BK238.out)
           have n2_ := ZM (ZS BK249.out)
           have n3_ := ZM (ZP HB.out)
           clear HO_3
           clear BK238
           clear BK249
           clear HB
           have HO_3 := n0_
           have BK238 := n1_
           have BK249 := n2_
           have HB := n3_
           clear n0_ n1_ n2_ n3_
           have p251 : 0 ≤ (x5_2 : Int) := ZOD
           have q251 : x5_2 < (t239.length : Int) := ZOD
           obtain ⟨ad251, e251, hx251_0, hx251_1⟩ := at_T82 (Kd.R_reads' HO_3.out).2.2 x5_2 p251 q251
           obtain rfl : ad247 = ad251 := (by injection e251)
           replace p251 := eq_true p251
           replace q251 := eq_true q251
           refine start_ (n := 7) (S := fun w' => w'.cell? ⟨gb238, 0, none⟩ = some (.slice (some ad248) l0_0.length c0_0) ∧ w'.cell? ⟨gb238, 1, none⟩ = some (.slice A0_1 l0_1.length c0_1) ∧ w'.cell? (ad247.add ((x5_2).toNat * 2)) = some (.int .i64 ((rd_T82 t239 x5_2).f0)) ∧ w'.cell? ⟨(ad247.add ((x5_2).toNat * 2)).block, (ad247.add ((x5_2).toNat * 2)).off + 1, none⟩ = some (.int .i64 ((rd_T82 t239 x5_2).f1))) (ds := []) #[false, false, false, false, false, false, false] (by kernel_rfl) rfl rfl ⟨(ZG BK238.out 0).trans rfl, (ZG BK238.out 1).trans rfl, hx251_0, hx251_1⟩ (fun hHeld => ?_)
           generalize wc.drew = w51 at HO_3 BK238 BK249 HB hx251_0 hx251_1 hHeld ⊢
           refine pure_ (i := 1) (N := some 64) (v := ?_) (a' := ?_) (ZB 7 2) rfl rfl (by kernel_rfl) (fun _ _ _ h => h) (Or.inl ⟨by rfl, ?_⟩) ?_ ?_
           rotate_left
           ·intro w'; go_simp; with_reducible rfl
           rotate_left
           ·simp only [Act.put, ZI, ZJ, ZK, i64_w, i32_w]; rfl
           refine pure_ (i := 2) (N := some 65) (v := ?_) (a' := ?_) (ZB 7 6) rfl rfl (by kernel_rfl) (fun _ _ _ h => h) (Or.inl ⟨by rfl, ?_⟩) ?_ ?_
           rotate_left
           ·intro w'; go_simp; with_reducible rfl
           rotate_left
           ·simp only [Act.put, ZI, ZJ, ZK, i64_w, i32_w]; rfl
           refine pure_ (i := 3) (N := some 66) (v := ?_) (a' := ?_) (ZB 7 14) rfl rfl (by kernel_rfl) (fun _ _ _ h => h) (Or.inl ⟨by rfl, ?_⟩) ?_ ?_
           rotate_left
           ·intro w'; go_simp; with_reducible rfl
           rotate_left
           ·simp only [Act.put, ZI, ZJ, ZK, i64_w, i32_w]; rfl
           refine take_ (i := 0) (N := some 63) (v := ?_) (a' := ?_) (ZB 7 15) rfl rfl (by kernel_rfl) (fun _ _ _ h => h) (Or.inl ⟨by rfl, ?_⟩) hHeld ?_ ?_
           rotate_left
           ·rintro w' ⟨s0, s1, s2, s3⟩
            go_simp
            with_reducible rfl
           rotate_left
           ·simp only [Act.put, ZI, ZJ, ZK, i64_w, i32_w]; rfl
           refine take_ (i := 4) (N := some 67) (v := ?_) (a' := ?_) (ZB 7 31) rfl rfl (by kernel_rfl) (fun _ _ _ h => h) (Or.inl ⟨by rfl, ?_⟩) hHeld ?_ ?_
           rotate_left
           ·rintro w' ⟨s0, s1, s2, s3⟩
            go_simp
            with_reducible rfl
           rotate_left
           ·simp only [Act.put, ZI, ZJ, ZK, i64_w, i32_w]; rfl
           refine one_ (i := 5) (N := some 68) (ZB 7 63) rfl rfl (by kernel_rfl) (by decide) (fun K hK => ?_)
           refine goes_ Tryd.func47 (by kernel_rfl) rfl #[.agg #[.slice (some ad248) l0_0.length c0_0, .slice A0_1 l0_1.length c0_1], .agg #[.int .i64 ((rd_T82 t239 x5_2).f0), .int .i64 ((rd_T82 t239 x5_2).f1)]] (by rfl) rfl rfl ZH ?_
           with_reducible refine (meanderref08_Prev.calls kj25 _ _ l0_0 _ _ l0_1 ((rd_T82 t239 x5_2).f0) ((rd_T82 t239 x5_2).f1) t252 _ ?side1 ?side2 ?side3 ?side4 A42.out).mono ?_
           (case side1 => repeat (first | exact (Kd.C_below HR0_0.out HB.out) | (with_reducible refine Kd.C_alloc ?_ _) | (with_reducible refine Kd.C_drewN ?_ _) | (with_reducible refine Kd.C_drew ?_)))
           (case side2 => exact HC0_0.out)
           (case side3 => repeat (first | exact (Kd.C_below HR0_1.out HB.out) | (with_reducible refine Kd.C_alloc ?_ _) | (with_reducible refine Kd.C_drewN ?_ _) | (with_reducible refine Kd.C_drew ?_)))
           (case side4 => exact HC0_1.out)
           rintro e w52 ⟨v253, rfl, ho0, hb⟩
           have HS2_ := (hb.cell (ZC _ _ (hHeld.2.2.1))).trans (hHeld.2.2.1)
           have HS3_ := (hb.cell (ZC _ _ (hHeld.2.2.2))).trans (hHeld.2.2.2)
           refine ⟨_, rfl, ?_⟩
           have n0_ := ZM (Kd.R_below (ZRK HO_3.out) hb)
           have n1_ := ZM (Kd.R_lower ho0 (ZV (ZBB HB.out)))
           have n2_ := ZM (blk_below (g := gb238) (o := .cells #[.slice (some ad248) l0_0.length c0_0, .slice A0_1 l0_1.length c0_1] 27 (0, 0)) (ZBK BK238.out) hb)
           have n3_ := ZM (blk_below (g := gb249) (o := .cells #[.int .i64 ((rd_T40 l0_0 ((rd_T82 t239 x5_2).f0)).f0), .int .i64 ((rd_T40 l0_0 ((rd_T82 t239 x5_2).f0)).f1), .int .i64 ((rd_T40 l0_0 ((rd_T82 t239 x5_2).f0)).f2), .int .i64 ((rd_T40 l0_0 ((rd_T82 t239 x5_2).f0)).f3)] 40 (0, 0)) (ZBK BK249.out) hb)
           have n4_ := ZM (ZW (ZBB HB.out) hb)
           clear HO_3
           clear BK238
           clear BK249
           clear HB
           have HO_3 := n0_
           have HO254 := n1_
           have BK238 := n2_
           have BK249 := n3_
           have HB := n4_
           clear n0_ n1_ n2_ n3_ n4_
           (try clear hb)
           (try clear hb2)
           (try clear hk)
           (try clear hi)
           (try clear ho0)
           refine hK.out _ _ ⟨(ZG BK238.out 0).trans rfl, (ZG BK238.out 1).trans rfl, HS2_, HS3_⟩ (fun hHeld => ?_)
           clear hK K
           refine norm_ (a' := ?_) ?_ ?_
           rotate_left
           ·show Act.put _ (some 68) _ = _
            simp only [Act.put, ZI, ZJ, ZK, i64_w, i32_w]
            rfl
           refine pure_ (i := 6) (N := some 7) (v := ?_) (a' := ?_) (ZB 7 127) rfl rfl (by kernel_rfl) (fun _ _ _ h => h) (Or.inl ⟨by rfl, ?_⟩) ?_ ?_
           rotate_left
           ·intro w'; go_simp; with_reducible rfl
           rotate_left
           ·simp only [Act.put, ZI, ZJ, ZK, i64_w, i32_w]; rfl
           refine done_ (by kernel_rfl) ?_
           try go_wp2
           have n0_ := ZM (ZZ HO_3.out)
           have n1_ := ZM (ZZ HO254.out)
           have n2_ := ZM (ZS BK238.out)
           have n3_ := ZM (ZS BK249.out)
           have n4_ := ZM (ZP HB.out)
           clear HO_3
           clear HO254
           clear BK238
           clear BK249
           clear HB
           have HO_3 := n0_
           have HO254 := n1_
           have BK238 := n2_
           have BK249 := n3_
           have HB := n4_
           clear n0_ n1_ n2_ n3_ n4_
           obtain ⟨Ao54, co54, eo54⟩ := Kd.R_slice HO254.out
           (first | subst eo54 | (injection eo54 with f1_ f2_ f3_; have f4_ := f1_.symm; have f5_ := f3_.symm; clear f1_ f2_ f3_; subst f4_; subst f5_))
           have p255 : 0 ≤ (0 : Int) := (by omega)
           have q255 : 0 < (t252.length : Int) := ZOD
           obtain ⟨ad255, e255, hx255_0⟩ := Kd.at_int (Kd.R_reads' HO254.out).2.2 0 p255 q255
           cases e255
           have qi255 : (0 < t252.length) = True := eq_true (by omega)
           (try rw [show ((0 : Int)).toNat = 0 from rfl] at hx255_0)
           (try rw [Addr.add_zero'] at hx255_0)
           replace p255 := eq_true p255
           replace q255 := eq_true q255
           have p256 : 0 ≤ ((rd t252 0) : Int) := ZOD
           have q256 : (rd t252 0) < (l0_0.length : Int) := ZOD
           obtain ⟨ad256, e256, hx256_0, hx256_1, hx256_2, hx256_3⟩ := at_T40 HR0_0.out (rd t252 0) p256 q256
           have hw256_3 := hx256_3
           have hw256_2 := hx256_2
           have hw256_1 := hx256_1
           have hw256_0 := hx256_0
           obtain rfl : ad248 = ad256 := (by injection e256)
           replace hx256_0 := (HB.out.cell (ZC w _ hx256_0)).trans hx256_0
           replace hx256_1 := (HB.out.cell (ZC w _ hx256_1)).trans hx256_1
           replace hx256_2 := (HB.out.cell (ZC w _ hx256_2)).trans hx256_2
           replace hx256_3 := (HB.out.cell (ZC w _ hx256_3)).trans hx256_3
           replace p256 := eq_true p256
           replace q256 := eq_true q256
           refine start_ (n := 9) (S := fun w' => w'.cell? ⟨gb238, 0, none⟩ = some (.slice (some ad248) l0_0.length c0_0) ∧ w'.cell? ⟨gb238, 1, none⟩ = some (.slice A0_1 l0_1.length c0_1) ∧ w'.cell? ad255 = some (.int .i64 (rd t252 0)) ∧ w'.cell? (ad248.add (((rd t252 0)).toNat * 4)) = some (.int .i64 ((rd_T40 l0_0 (rd t252 0)).f0)) ∧ w'.cell? ⟨(ad248.add (((rd t252 0)).toNat * 4)).block, (ad248.add (((rd t252 0)).toNat * 4)).off + 1, none⟩ = some (.int .i64 ((rd_T40 l0_0 (rd t252 0)).f1)) ∧ w'.cell? ⟨(ad248.add (((rd t252 0)).toNat * 4)).block, (ad248.add (((rd t252 0)).toNat * 4)).off + 2, none⟩ = some (.int .i64 ((rd_T40 l0_0 (rd t252 0)).f2)) ∧ w'.cell? ⟨(ad248.add (((rd t252 0)).toNat * 4)).block, (ad248.add (((rd t252 0)).toNat * 4)).off + 3, none⟩ = some (.int .i64 ((rd_T40 l0_0 (rd t252 0)).f3))) (ds := []) #[false, false, false, false, false, false, false, false, false] (by kernel_rfl) rfl rfl ⟨(ZG BK238.out 0).trans rfl, (ZG BK238.out 1).trans rfl, hx255_0, ((HB.out.cell (ZC w _ hw256_0)).trans hw256_0), ((HB.out.cell (ZC w _ hw256_1)).trans hw256_1), ((HB.out.cell (ZC w _ hw256_2)).trans hw256_2), ((HB.out.cell (ZC w _ hw256_3)).trans hw256_3)⟩ (fun hHeld => ?_); refine with_tabW meanderref09_ports.tab13 meanderref09_ports.bits13 (fun HT_ HW_ => ?_)
           generalize w52.drew = w53 at HO_3 HO254 BK238 BK249 HB hx255_0 hx256_0 hx256_1 hx256_2 hx256_3 hHeld ⊢
           refine pure_ (i := 0) (N := some 69) (v := ?_) (a' := ?_) (ZB 9 1) rfl rfl (any_of HT_.out (by kernel_rfl)) (fun _ _ _ h => h) (Or.inl ⟨by rfl, ?_⟩) ?_ ?_
           rotate_left
           ·intro w'; go_simp; with_reducible rfl
           rotate_left
           ·simp only [Act.put, ZI, ZJ, ZK, i64_w, i32_w]; rfl
           refine pure_ (i := 2) (N := some 71) (v := ?_) (a' := ?_) (ZB 9 5) rfl rfl (any_of HT_.out (by kernel_rfl)) (fun _ _ _ h => h) (Or.inl ⟨by rfl, ?_⟩) ?_ ?_
           rotate_left
           ·intro w'; go_simp; with_reducible rfl
           rotate_left
           ·simp only [Act.put, ZI, ZJ, ZK, i64_w, i32_w]; rfl
           refine pure_ (i := 3) (N := some 72) (v := ?_) (a' := ?_) (ZB 9 13) rfl rfl (any_of HT_.out (by kernel_rfl)) (fun _ _ _ h => h) (Or.inl ⟨by rfl, ?_⟩) ?_ ?_
           rotate_left
           ·intro w'; go_simp; with_reducible rfl
           rotate_left
           ·simp only [Act.put, ZI, ZJ, ZK, i64_w, i32_w]; rfl
           refine take_ (i := 1) (N := some 70) (v := ?_) (a' := ?_) (ZB 9 15) rfl rfl (take_ofW HT_.out HW_.out (by kernel_rfl)) (fun _ _ _ h => h) (Or.inl ⟨by rfl, ?_⟩) hHeld ?_ ?_
           rotate_left
           ·rintro w' ⟨s0, s1, s2, s3, s4, s5, s6⟩
            go_simp
            with_reducible rfl
           rotate_left
           ·simp only [Act.put, ZI, ZJ, ZK, i64_w, i32_w]; rfl
           refine take_ (i := 4) (N := some 73) (v := ?_) (a' := ?_) (ZB 9 31) rfl rfl (take_ofW HT_.out HW_.out (by kernel_rfl)) (fun _ _ _ h => h) (Or.inl ⟨by rfl, ?_⟩) hHeld ?_ ?_
           rotate_left
           ·rintro w' ⟨s0, s1, s2, s3, s4, s5, s6⟩
            go_simp
            with_reducible rfl
           rotate_left
           ·simp only [Act.put, ZI, ZJ, ZK, i64_w, i32_w]; rfl
           refine pure_ (i := 5) (N := some 74) (v := ?_) (a' := ?_) (ZB 9 63) rfl rfl (any_of HT_.out (by kernel_rfl)) (fun _ _ _ h => h) (Or.inl ⟨by rfl, ?_⟩) ?_ ?_
           rotate_left
           ·intro w'; go_simp; with_reducible rfl
           rotate_left
           ·simp only [Act.put, ZI, ZJ, ZK, i64_w, i32_w]; rfl
           refine pure_ (i := 6) (N := some 75) (v := ?_) (a' := ?_) (ZB 9 127) rfl rfl (any_of HT_.out (by kernel_rfl)) (fun _ _ _ h => h) (Or.inl ⟨by rfl, ?_⟩) ?_ ?_
           rotate_left
           ·intro w'; go_simp; with_reducible rfl
           rotate_left
           ·simp only [Act.put, ZI, ZJ, ZK, i64_w, i32_w]; rfl
           refine take_ (i := 7) (N := some 76) (v := ?_) (a' := ?_) (ZB 9 255) rfl rfl (take_ofW HT_.out HW_.out (by kernel_rfl)) (fun _ _ _ h => h) (Or.inl ⟨by rfl, ?_⟩) hHeld ?_ ?_
           rotate_left
           ·rintro w' ⟨s0, s1, s2, s3, s4, s5, s6⟩
            go_simp
            with_reducible rfl
           rotate_left
           ·simp only [Act.put, ZI, ZJ, ZK, i64_w, i32_w]; rfl
           refine pure_ (i := 8) (N := some 77) (v := ?_) (a' := ?_) (ZB 9 511) rfl rfl (any_of HT_.out (by kernel_rfl)) (fun _ _ _ h => h) (Or.inl ⟨by rfl, ?_⟩) ?_ ?_
           rotate_left
           ·intro w'; go_simp; with_reducible rfl
           rotate_left
           ·simp only [Act.put, ZI, ZJ, ZK, i64_w, i32_w]; rfl
           refine done_ (done_of HT_.out (by kernel_rfl)) ?_
           try go_wp2
           go_ret
           exact ⟨by first | rfl | (simp [errW_none, errW_some] <;> rfl) | (simp [*, errW_none, errW_some] <;> rfl), ZBB HB.out⟩
      ·rw [if_neg c22] at H
       have c22b0 : decide (x5_2 < (t239.length : Int)) = false := decide_eq_false c22
       clear c22
       obtain rfl := Option.some.inj H
       go_wp2
       go_ret
       exact ⟨by first | rfl | (simp [errW_none, errW_some] <;> rfl) | (simp [*, errW_none, errW_some] <;> rfl), ZBB HB.out⟩

end Go.Proofs.YtbjjcolbomaodaaDoor.PLdp
