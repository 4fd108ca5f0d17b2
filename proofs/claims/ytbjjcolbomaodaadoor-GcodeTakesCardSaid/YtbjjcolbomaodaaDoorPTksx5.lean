-- Laid by hprint.py of this repo: the kit's printer, and contracts by hand beside it. Not trusted: Lean checks it.
import Derived.Test.YtbjjcolbomaodaaDoorWZ
import Derived.Test.YtbjjcolbomaodaaDoorWY
import Derived.Test.YtbjjcolbomaodaaDoorPTksx0
namespace Go.Proofs.YtbjjcolbomaodaaDoor.PTks
open Go.RowKit Go.Proofs.YtbjjcolbomaodaaDoorW.PrintWords Go.Proofs.YtbjjcolbomaodaaDoorW.PrintLast Go.Proofs.YtbjjcolbomaodaaDoorW.PrintMore
attribute [local go_sem] max2_int min2_int max_two min_two max_three min_three max_four min_four   -- for this text's walks alone
set_option linter.unusedVariables false
set_option linter.unusedSimpArgs false

/-! ### gcode_Take: function 9 -/
def gcode_Take.node (xs : List Int) : S40 := ⟨Gc.hd xs, Gc.num2 (Gc.hd xs.tail.tail) (Gc.hd xs.tail.tail.tail), Gc.num2 (Gc.hd xs.tail.tail.tail.tail) (Gc.hd xs.tail.tail.tail.tail.tail), Gc.hd xs.tail⟩
def gcode_Take.edge (xs : List Int) : S42 := ⟨Gc.hd xs, Gc.hd xs.tail, Gc.hd xs.tail.tail⟩
def gcode_Take.bad6 (bad : Bool) (xs : List Int) : Bool := (((((bad || xs.isEmpty) || xs.tail.isEmpty) || xs.tail.tail.isEmpty) || xs.tail.tail.tail.isEmpty) || xs.tail.tail.tail.tail.isEmpty) || xs.tail.tail.tail.tail.tail.isEmpty
def gcode_Take.bad3 (bad : Bool) (xs : List Int) : Bool := ((bad || xs.isEmpty) || xs.tail.isEmpty) || xs.tail.tail.isEmpty
def gcode_Take.nodes : Nat → Bool → List Int → List (S40) → Bool × List Int × List (S40)
  | 0, bad, xs, ns => (bad, xs, ns)
  | n + 1, bad, xs, ns => if bad = true then (bad, xs, ns) else gcode_Take.nodes n (gcode_Take.bad6 bad xs) xs.tail.tail.tail.tail.tail.tail (ns ++ [gcode_Take.node xs])
def gcode_Take.edges : Nat → Bool → List Int → List (S42) → Bool × List Int × List (S42)
  | 0, bad, xs, ns => (bad, xs, ns)
  | n + 1, bad, xs, ns => if bad = true then (bad, xs, ns) else gcode_Take.edges n (gcode_Take.bad3 bad xs) xs.tail.tail.tail (ns ++ [gcode_Take.edge xs])
def gcode_Take.p (l : List Int) : Bool × List Int × List (S40) := gcode_Take.nodes (Gc.hd (Gc.restMG l)).toNat (!(Gc.isMG l) || (Gc.restMG l).isEmpty) (Gc.restMG l).tail []
def gcode_Take.q (p : Bool × List Int × List (S40)) : Bool × List Int × List (S42) := gcode_Take.edges (Gc.hd p.2.1).toNat (p.1 || p.2.1.isEmpty) p.2.1.tail []
def gcode_Take.f (l0 : List Int) : Option (List (S40) × List (S42) × Int) :=
  if (l0.all fun x => decide (0 ≤ x) && decide (x ≤ 255)) = true then some (if ((gcode_Take.q (gcode_Take.p l0)).1 || !(gcode_Take.q (gcode_Take.p l0)).2.1.isEmpty) = true then ([], [], 2) else ((gcode_Take.p l0).2.2, (gcode_Take.q (gcode_Take.p l0)).2.2, 0)) else none
theorem gcode_Take.head_le {w0 w : World} {rb : Nat} {bad : Bool} {xs : List Int} (h : Gc.RSt w0 rb bad xs w) : 0 ≤ Gc.hd xs ∧ Gc.hd xs ≤ 255 := by
  cases xs with
  | nil => exact ⟨Int.le_refl 0, by decide⟩
  | cons x t => exact h.2.2.2 x (List.mem_cons_self ..)
set_option maxHeartbeats 12800000 in
set_option maxRecDepth 100000 in
theorem gcode_Take.calls (A0 : Option Addr) (c0 : Nat) (l0 : List Int) (r1 : List (S40)) (r2 : List (S42)) (r3 : Int) (w : World) (hr0 : Kd.C (Kd.int .u8) w A0 l0.length l0) (hc0 : l0.length ≤ c0) (h : gcode_Take.f l0 = some (r1, r2, r3)) :
    Calls Tryd.prog 9 #[.slice A0 l0.length c0] w fun e w' => ∃ v0_ v1_ : Value, e = .returned (.tuple #[.agg #[v0_, v1_], .int .i64 r3]) ∧ Kd.R k40 40 w' w.heap.size (fun _ => True) v0_ r1 ∧ Kd.R k42 42 w' w.heap.size (fun _ => True) v1_ r2 ∧ Below w.heap.size w w' := by
  unfold gcode_Take.f at h
  split at h
  case isFalse => cases h
  case isTrue hl =>
  have hx : ∀ x ∈ l0, 0 ≤ x ∧ x ≤ 255 := fun x hm => by
    have := List.all_eq_true.1 hl x hm
    simpa using this
  have hu27 := Tryd.underlying27
  have HR0 := ZM hr0
  have HC0 := ZM hc0
  have HX := ZM hx
  have H := ZM h
  clear hr0 hc0 h hl hx
  have hcv : (convert 22 22 (.slice (some ⟨w.heap.size + 1, 0, none⟩) 2 2)).run Tryd.prog ((w.alloc (.cells #[.slice none 0 0, .slice none 0 0] 27)).alloc (.cells #[.int .u8 77, .int .u8 71] 5)) = .ok (.slice (some ⟨w.heap.size + 1, 0, none⟩) 2 2) ((w.alloc (.cells #[.slice none 0 0, .slice none 0 0] 27)).alloc (.cells #[.int .u8 77, .int .u8 71] 5 (2, 3))) := by
    have := Lib.run_convert_bytes_const (P := Tryd.prog) (w.alloc (.cells #[.slice none 0 0, .slice none 0 0] 27)) 22 5 #[.int .u8 77, .int .u8 71] 2 2 Tryd.underlying22 Tryd.underlying5
    simpa using this
  have mixed : Tryd.prog.follows Departure.mixedOrders = true := by kernel_rfl
  obtain ⟨g, hg⟩ : ∃ g : Nat, g = w.heap.size := ⟨_, rfl⟩
  obtain ⟨W1, hW1⟩ : ∃ W1 : World, W1 = (w.alloc (.cells #[.slice none 0 0, .slice none 0 0] 27)).alloc (.cells #[.int .u8 77, .int .u8 71] 5 (2, 3)) := ⟨_, rfl⟩
  have hz1 : W1.heap.size = g + 2 := by rw [hW1, hg]; simp
  have hM : ∀ i : Nat, i < 2 → W1.cell? ⟨g + 1, i, none⟩ = some (.int .u8 (([77, 71] : List Int).getD i 0)) := by
    have hb := blk_new (w.alloc (.cells #[.slice none 0 0, .slice none 0 0] 27)) (.cells #[.int .u8 77, .int .u8 71] 5 (2, 3))
    have hb2 : W1.heap[g + 1]? = some (.cells #[.int .u8 77, .int .u8 71] 5 (2, 3)) := by
      rw [hW1, hg]
      simpa using hb
    intro i hi
    rw [cell_of_row W1 (g + 1) i _ _ _ hb2]
    rcases (show i = 0 ∨ i = 1 by omega) with rfl | rfl <;> rfl
  have hK1 : W1.heap[g]? = some (.cells #[.slice none 0 0, .slice none 0 0] 27 (0, 0)) := by
    rw [hW1, hg, Below.heap_alloc _ _ _ (by simp)]
    exact blk_new _ _
  have hB1 : Below w.heap.size w W1 := by rw [hW1]; exact ZO (ZO (Below.refl w.heap.size w) _) _
  have HG := ZM hg
  have HW1 := ZM hW1
  have HZ1 := ZM hz1
  have HM := ZM hM
  have HK1 := ZM hK1
  have HB1 := ZM hB1
  clear hg hW1 hz1 hM hK1 hB1
  go_enter Tryd.func9, Tryd.ntmps9
  go_wp2_with (go_at_call 18; (try rw [← HG.out]); (try rw [← HW1.out]); refine (Gc.cutMG W1 A0 c0 (g + 1) l0 (Kd.C_below HR0.out HB1.out) HC0.out HX.out HM.out).mono ?_; rintro e w1 ⟨A1, c1, rfl, rfl, hc1, hC1⟩; have HC1 := ZM hc1; have HR1 := ZM hC1; clear hc1 hC1; refine Hid.out ?_)
  refine Lib.hid ?_
  obtain ⟨W2, hW2⟩ : ∃ W2 : World, W2 = (w1.alloc (.cells #[.slice A1 (Gc.restMG l0).length c1, .bool (!(Gc.isMG l0))] 47)).alloc (.cells #[.slice none 0 0, .slice none 0 0] 27) := ⟨_, rfl⟩
  have hrx : ∀ x ∈ Gc.restMG l0, 0 ≤ x ∧ x ≤ 255 := fun x hm => by
    unfold Gc.restMG at hm
    split at hm
    · exact HX.out x (List.mem_of_mem_drop hm)
    · exact HX.out x hm
  have hB2 : Below w1.heap.size w1 W2 := by rw [hW2]; exact ZO (ZO (Below.refl w1.heap.size w1) _) _
  have hbr : W2.heap[g + 2]? = some (.cells #[.slice A1 (Gc.restMG l0).length c1, .bool (!(Gc.isMG l0))] 47 (0, 0)) := by
    rw [hW2, Below.heap_alloc _ _ _ (by have := HZ1.out; simp; omega), ← HZ1.out]
    exact blk_new _ _
  have hbg : W2.heap[g + 3]? = some (.cells #[.slice none 0 0, .slice none 0 0] 27 (0, 0)) := by
    have h := blk_new (w1.alloc (.cells #[.slice A1 (Gc.restMG l0).length c1, .bool (!(Gc.isMG l0))] 47)) (.cells #[.slice none 0 0, .slice none 0 0] 27)
    rw [← hW2] at h
    have e : (w1.alloc (.cells #[.slice A1 (Gc.restMG l0).length c1, .bool (!(Gc.isMG l0))] 47)).heap.size = g + 3 := by have := HZ1.out; simp; omega
    rw [e] at h
    exact h
  have hb1 : W2.heap[g]? = some (.cells #[.slice none 0 0, .slice none 0 0] 27 (0, 0)) := (hB2.block g (by have := HZ1.out; omega)).trans HK1.out
  have hS : Gc.RSt w1 (g + 2) (!(Gc.isMG l0)) (Gc.restMG l0) W2 := ⟨⟨A1, c1, hbr, HC1.out, HR1.out⟩, hB2, by have := HZ1.out; omega, hrx⟩
  have HS := ZM hS
  have BKg := ZM hbg
  have BK1 := ZM hb1
  have HW2 := ZM hW2
  have NEg : Aside0 (g + 3 ≠ g + 2) := ⟨by omega⟩
  have NE1 : Aside0 (g ≠ g + 2) := ⟨by omega⟩
  clear hB2 hbr hbg hb1 hS hW2 hrx hcv
  go_wp2_with (go_at_call 19; (try simp only [World.heap_size_alloc]); (try rw [HZ1.out]); (try rw [← HW2.out]); (try simp only [Nat.add_assoc, Nat.reduceAdd]); refine (Gc.rbyte w1 (g + 2) _ _ W2 HS.out).mono ?_; rintro e w2 ⟨rfl, h_, k_⟩; have m0_ := ZM (KeepBut.blk k_ BKg.out NEg.out (by simp)); have m1_ := ZM (KeepBut.blk k_ BK1.out NE1.out (by simp)); have HD := ZM (gcode_Take.head_le HS.out); clear HS BKg BK1; have HS := ZM h_; have BKg := m0_; have BK1 := m1_; clear h_ k_ m0_ m1_)
  have HBW := ZM (show w.heap.size ≤ w1.heap.size from HB1.out.size)
  go_loopw [8] (fun v8 w' => ∃ (X : Int) (bad : Bool) (xs : List Int) (ns : List (S40)) (u0 : Value), v8 = .int .i64 X ∧ Aside0 (0 ≤ X ∧ X.toNat + ns.length ≤ 255) ∧ Aside0 (gcode_Take.nodes X.toNat bad xs ns = gcode_Take.p l0) ∧ Aside0 (Gc.RSt w1 (g + 2) bad xs w') ∧ Aside0 (w'.heap[g + 3]? = some (.cells #[u0, .slice none 0 0] 27 (0, 0))) ∧ Aside0 (w'.heap[g]? = some (.cells #[.slice none 0 0, .slice none 0 0] 27 (0, 0))) ∧ Aside0 (Kd.R k40 40 w' w1.heap.size (fun _ => True) u0 ns)) (fun v8 _ => (intOf v8).toNat)
  case atStart => exact ⟨Gc.hd (Gc.restMG l0), (!(Gc.isMG l0) || (Gc.restMG l0).isEmpty), (Gc.restMG l0).tail, [], .slice none 0 0, rfl, ⟨by have := HD.out; rw [List.length_nil]; omega⟩, ⟨rfl⟩, HS, BKg, BK1, ⟨Kd.R_nil _ _ _ _ _⟩⟩
  case round =>
    clear HS BKg BK1 HD
    obtain ⟨X, bad, xs, ns, u0, rfl, HX0, HP, HS, BKg, BK1, HO⟩ := hrel
    have cbad : wr.cell? ⟨g + 2, 1, none⟩ = some (.bool bad) := HS.out.bad1
    by_cases c : 0 < X
    · have d : decide (0 < X) = true := decide_eq_true c
      cases bad
      · have C := ZM c
        clear c
        go_upto_region 7 with (fail)
        refine start_ (n := 15) (S := fun w' => w'.cell? ⟨g + 3, 0, none⟩ = some u0) (ds := [14]) #[false, false, false, false, false, false, false, false, false, false, false, false, false, false, false] (by kernel_rfl) rfl rfl ((ZG BKg.out 0).trans rfl) (fun hHeld => ?_)
        have s_ := HS.out.drew
        have m0_ : wr.drew.heap[g + 3]? = some (.cells #[u0, .slice none 0 0] 27 (0, 0)) := BKg.out
        have m1_ : wr.drew.heap[g]? = some (.cells #[.slice none 0 0, .slice none 0 0] 27 (0, 0)) := BK1.out
        have r0_ := ZZ HO.out
        clear HS cbad BKg BK1 HO
        generalize wr.drew = w30 at s_ m0_ m1_ r0_ hHeld ⊢
        have HS := ZM s_
        have BKg := ZM m0_
        have BK1 := ZM m1_
        have HO := ZM r0_
        clear s_ m0_ m1_ r0_
        refine ZPV (ZB 15 1) 0 35 ?_
        refine ZPV (ZB 15 5) 2 37 ?_
        refine ZPV (ZB 15 21) 4 39 ?_
        refine ZPV (ZB 15 85) 6 41 ?_
        refine ZPV (ZB 15 341) 8 43 ?_
        refine ZTV (ZB 15 343) hHeld 1 36 ?_
        refine one_ (i := 3) (N := some 38) (ZB 15 351) rfl rfl (by kernel_rfl) (by decide) (fun K hK => ?_)
        refine goes_ Tryd.func19 (by kernel_rfl) rfl #[.pointer (some ⟨g + 2, 0, none⟩)] (by rfl) rfl rfl (by (try simp only [List.map_toArray, List.map_cons, List.map_nil]); first | done | rfl) ?_
        refine (Gc.rbyte w1 (g + 2) _ _ _ HS.out).mono ?_
        rintro e w_3 ⟨rfl, h_, k_⟩
        refine ⟨_, rfl, ?_⟩
        have m0_ := ZM (KeepBut.blk k_ BKg.out NEg.out (by simp))
        have m1_ := ZM (KeepBut.blk k_ BK1.out NE1.out (by simp))
        have r0_ := ZM (HS.out.row HO.out (by decide) k_)
        clear HS BKg BK1 HO
        have HS := ZM h_
        have BKg := m0_
        have BK1 := m1_
        have HO := r0_
        clear h_ k_ m0_ m1_ r0_
        refine hK.out _ _ ((ZG BKg.out 0).trans rfl) (fun hHeld => ?_)
        clear hK K
        refine norm_ (a' := ?_) ?_ ?_
        rotate_left
        · show Act.put _ (some 38) _ = _
          simp only [Act.put, ZI, ZJ, ZK, i64_w, i32_w]
          rfl
        refine one_ (i := 5) (N := some 40) (ZB 15 383) rfl rfl (by kernel_rfl) (by decide) (fun K hK => ?_)
        refine goes_ Tryd.func19 (by kernel_rfl) rfl #[.pointer (some ⟨g + 2, 0, none⟩)] (by rfl) rfl rfl (by (try simp only [List.map_toArray, List.map_cons, List.map_nil]); first | done | rfl) ?_
        refine (Gc.rbyte w1 (g + 2) _ _ _ HS.out).mono ?_
        rintro e w_5 ⟨rfl, h_, k_⟩
        refine ⟨_, rfl, ?_⟩
        have m0_ := ZM (KeepBut.blk k_ BKg.out NEg.out (by simp))
        have m1_ := ZM (KeepBut.blk k_ BK1.out NE1.out (by simp))
        have r0_ := ZM (HS.out.row HO.out (by decide) k_)
        clear HS BKg BK1 HO
        have HS := ZM h_
        have BKg := m0_
        have BK1 := m1_
        have HO := r0_
        clear h_ k_ m0_ m1_ r0_
        refine hK.out _ _ ((ZG BKg.out 0).trans rfl) (fun hHeld => ?_)
        clear hK K
        refine norm_ (a' := ?_) ?_ ?_
        rotate_left
        · show Act.put _ (some 40) _ = _
          simp only [Act.put, ZI, ZJ, ZK, i64_w, i32_w]
          rfl
        refine one_ (i := 7) (N := some 42) (ZB 15 511) rfl rfl (by kernel_rfl) (by decide) (fun K hK => ?_)
        refine goes_ Tryd.func20 (by kernel_rfl) rfl #[.pointer (some ⟨g + 2, 0, none⟩)] (by rfl) rfl rfl (by (try simp only [List.map_toArray, List.map_cons, List.map_nil]); first | done | rfl) ?_
        refine (Gc.rtwo w1 (g + 2) _ _ _ HS.out).mono ?_
        rintro e w_7 ⟨rfl, h_, k_⟩
        refine ⟨_, rfl, ?_⟩
        have m0_ := ZM (KeepBut.blk k_ BKg.out NEg.out (by simp))
        have m1_ := ZM (KeepBut.blk k_ BK1.out NE1.out (by simp))
        have r0_ := ZM (HS.out.row HO.out (by decide) k_)
        clear HS BKg BK1 HO
        have HS := ZM h_
        have BKg := m0_
        have BK1 := m1_
        have HO := r0_
        clear h_ k_ m0_ m1_ r0_
        refine hK.out _ _ ((ZG BKg.out 0).trans rfl) (fun hHeld => ?_)
        clear hK K
        refine norm_ (a' := ?_) ?_ ?_
        rotate_left
        · show Act.put _ (some 42) _ = _
          simp only [Act.put, ZI, ZJ, ZK, i64_w, i32_w]
          rfl
        refine one_ (i := 9) (N := some 44) (ZB 15 1023) rfl rfl (by kernel_rfl) (by decide) (fun K hK => ?_)
        refine goes_ Tryd.func20 (by kernel_rfl) rfl #[.pointer (some ⟨g + 2, 0, none⟩)] (by rfl) rfl rfl (by (try simp only [List.map_toArray, List.map_cons, List.map_nil]); first | done | rfl) ?_
        refine (Gc.rtwo w1 (g + 2) _ _ _ HS.out).mono ?_
        rintro e w_9 ⟨rfl, h_, k_⟩
        refine ⟨_, rfl, ?_⟩
        have m0_ := ZM (KeepBut.blk k_ BKg.out NEg.out (by simp))
        have m1_ := ZM (KeepBut.blk k_ BK1.out NE1.out (by simp))
        have r0_ := ZM (HS.out.row HO.out (by decide) k_)
        clear HS BKg BK1 HO
        have HS := ZM h_
        have BKg := m0_
        have BK1 := m1_
        have HO := r0_
        clear h_ k_ m0_ m1_ r0_
        refine hK.out _ _ ((ZG BKg.out 0).trans rfl) (fun hHeld => ?_)
        clear hK K
        refine norm_ (a' := ?_) ?_ ?_
        rotate_left
        · show Act.put _ (some 44) _ = _
          simp only [Act.put, ZI, ZJ, ZK, i64_w, i32_w]
          rfl
        refine ZPV (ZB 15 2047) 10 45 ?_
        refine one_ (i := 11) (N := some 46) (ZB 15 4095) rfl rfl (by kernel_rfl) (by decide) (fun K hK => ?_)
        refine value_ (w1 := ?_) (v := ?_) (by rfl) rfl ?_ ?_
        rotate_left 2
        · go_simp
          constructor
          · rfl
          · rfl
        refine hK.out _ _ ((ZG (ZT BKg.out _) 0).trans rfl) (fun hHeld => ?_)
        clear hK K
        refine norm_ (a' := ?_) ?_ ?_
        rotate_left
        · show Act.put _ (some 46) _ = _
          simp only [Act.put, ZI, ZJ, ZK, i64_w, i32_w]
          rfl
        refine one_ (i := 12) (N := some 47) (ZB 15 8191) rfl rfl (by kernel_rfl) (by decide) (fun K hK => ?_)
        refine Kd.R_append_step k40 (w0 := w1) w1.heap.size (by rfl) (.tmp 36) (.tmp 46) 24 40 (.agg #[(.int .i64 0), (.int .i64 0), (.int .i64 0), (.int .i64 0)]) 32 rfl Tryd.underlying24 info40 rfl (by decide) (by omega) u0 ns (gcode_Take.node xs) [.int .i64 (Gc.hd xs), .int .i64 (Gc.num2 (Gc.hd xs.tail.tail) (Gc.hd xs.tail.tail.tail)), .int .i64 (Gc.num2 (Gc.hd xs.tail.tail.tail.tail) (Gc.hd xs.tail.tail.tail.tail.tail)), .int .i64 (Gc.hd xs.tail)] (fun _ => True) (fun _ => False) rfl rfl ?aP (fun _ hk => hk.elim) ?aF ?aO ?aB ?aS ?aL ?_
        (case aP => exact k40_mkM _ _ _ (gcode_Take.node xs))
        (case aB => exact HS.out.2.1)
        (case aF => exact (fun _ _ => trivial))
        (case aO => exact HO.out)
        (case aS => exact HS.out.2.1.size)
        (case aL => have := HX0.out; omega)
        intro v_ w_a ho hb hg hat
        have m0_ := ZM (blk_grown BKg.out hg (Kd.R_ne HO.out BKg.out (by decide)))
        have m1_ := ZM (blk_grown BK1.out hg (Kd.R_ne HO.out BK1.out (by decide)))
        have s_ := ZM (HS.out.grown hg (HS.out.rowne HO.out (by decide)) hb)
        obtain ⟨ms, hms⟩ : ∃ ms, ms = ns ++ [gcode_Take.node xs] := ⟨_, rfl⟩
        rw [← hms] at ho
        have HMS := ZM hms
        have HN := ZM ho
        clear HS BKg BK1 HO ho hb hg hat hms
        have HS := s_
        have BKg := m0_
        have BK1 := m1_
        clear s_ m0_ m1_ 
        obtain ⟨Ao_, co_, eo_⟩ := Kd.R_slice HN.out
        subst eo_
        refine hK.out _ _ ((ZG BKg.out 0).trans rfl) (fun hHeld => ?_)
        clear hK K
        refine norm_ (a' := ?_) ?_ ?_
        rotate_left
        · show Act.put _ (some 47) _ = _
          simp only [Act.put, ZI, ZJ, ZK, i64_w, i32_w]
          rfl
        refine ZPV (ZB 15 16383) 13 48 ?_
        refine last_ (i := 14) (N := none) (ZB 15 32767) rfl rfl (by kernel_rfl) (by decide) (fun K hK => ?_)
        have hs_ : w_a.cell? ⟨g + 3, 0, none⟩ = some u0 := (ZG BKg.out 0).trans rfl
        have hf_ := ZF BKg.out 0
        refine skip_ (w1 := ?_) (by rfl) rfl ?_ ?_
        rotate_left
        · go_simp
          rfl
        refine hK.out _ _ ?_
        clear hK K hs_ hf_
        refine done_ (by kernel_rfl) ?_
        have HWR := ZM (show wrap64 (X - 1) = X - 1 from by have := HX0.out; have := C.out; unfold wrap64; omega)
        go_wp2
        (try rw [HWR.out])
        go_roundw
        case rel =>
         have e_ : X.toNat = (X - 1).toNat + 1 := by have := C.out; omega
         have hp_ := HP.out
         rw [e_, gcode_Take.nodes, if_neg (by simp)] at hp_
         rw [← HMS.out] at hp_
         exact ⟨X - 1, _, _, ms, _, rfl, ⟨by have := HX0.out; have := C.out; rw [HMS.out, List.length_append, List.length_cons, List.length_nil]; omega⟩, ⟨hp_⟩, ⟨HS.out.set (p := ⟨g + 3, 0, none⟩) (show g + 2 ≠ g + 3 by omega) (show w1.heap.size ≤ g + 3 from by have := HZ1.out; omega) _⟩, ⟨blk_put BKg.out 0 _ rfl⟩, ⟨blk_far BK1.out (show g ≠ g + 3 by omega) _⟩, ⟨Kd.R_mono (Kd.R_far (p := ⟨g + 3, 0, none⟩) (Kd.R_types HN.out BKg.out (by decide)) (fun _ hk => hk.2) _) (fun _ _ => trivial)⟩⟩
        case measure => have := C.out; simp [intOf]; omega
      · have HPQ : Aside0 (gcode_Take.p l0 = (true, xs, ns)) := ⟨by
          have hp_ := HP.out
          rw [← hp_, show X.toNat = (X - 1).toNat + 1 from by omega, gcode_Take.nodes, if_pos rfl]⟩
        clear c
        obtain ⟨bad, hbad⟩ : ∃ b : Bool, b = true := ⟨_, rfl⟩
        have hbad2 := ZM hbad
        rw [← hbad] at HS HPQ
        clear hbad
        have HD := ZM (gcode_Take.head_le HS.out)
        go_wp2_with (go_at_call 19; refine (Gc.rbyte w1 (g + 2) _ _ _ HS.out).mono ?_; rintro e w3 ⟨rfl, h_, k_⟩; have m0_ := ZM (KeepBut.blk k_ BKg.out NEg.out (by simp)); have m1_ := ZM (KeepBut.blk k_ BK1.out NE1.out (by simp)); have r0_ := ZM (HS.out.row HO.out (by decide) k_); clear HS BKg BK1 HO; have HS := ZM h_; have BKg := m0_; have BK1 := m1_; have HO := r0_; clear h_ k_ m0_ m1_ r0_)
        clear d cbad
        go_loopw [9] (fun v9 w' => ∃ (X : Int) (bad : Bool) (ys : List Int) (es : List (S42)) (u1 : Value), v9 = .int .i64 X ∧ Aside0 (0 ≤ X ∧ X.toNat + es.length ≤ 255) ∧ Aside0 (gcode_Take.edges X.toNat bad ys es = gcode_Take.q (gcode_Take.p l0)) ∧ Aside0 (Gc.RSt w1 (g + 2) bad ys w') ∧ Aside0 (w'.heap[g + 3]? = some (.cells #[u0, u1] 27 (0, 0))) ∧ Aside0 (w'.heap[g]? = some (.cells #[.slice none 0 0, .slice none 0 0] 27 (0, 0))) ∧ Aside0 (Kd.R k40 40 w' w1.heap.size (fun _ => True) u0 ns) ∧ Aside0 (Kd.R k42 42 w' w1.heap.size (fun _ => True) u1 es)) (fun v9 _ => (intOf v9).toNat)
        case atStart => exact ⟨Gc.hd xs, _, xs.tail, [], .slice none 0 0, rfl, ⟨by have := HD.out; rw [List.length_nil]; omega⟩, ⟨by rw [HPQ.out]; rfl⟩, HS, BKg, BK1, HO, ⟨Kd.R_nil _ _ _ _ _⟩⟩
        case round =>
          clear HS BKg BK1 HD HO HX0 HP
          obtain ⟨X, bad, xs, es, u1, rfl, HX0, HP, HS, BKg, BK1, HO, HE⟩ := hrel
          have cbad : wr.cell? ⟨g + 2, 1, none⟩ = some (.bool bad) := HS.out.bad1
          by_cases c : 0 < X
          · have d : decide (0 < X) = true := decide_eq_true c
            cases bad
            · have C := ZM c
              clear c
              go_upto_region 11 with (fail)
              refine start_ (n := 13) (S := fun w' => w'.cell? ⟨g + 3, 1, none⟩ = some u1) (ds := [12]) #[false, false, false, false, false, false, false, false, false, false, false, false, false] (by kernel_rfl) rfl rfl ((ZG BKg.out 1).trans rfl) (fun hHeld => ?_)
              have s_ := HS.out.drew
              have m0_ : wr.drew.heap[g + 3]? = some (.cells #[u0, u1] 27 (0, 0)) := BKg.out
              have m1_ : wr.drew.heap[g]? = some (.cells #[.slice none 0 0, .slice none 0 0] 27 (0, 0)) := BK1.out
              have r0_ := ZZ HO.out
              have r1_ := ZZ HE.out
              clear HS cbad BKg BK1 HO HE
              generalize wr.drew = w30 at s_ m0_ m1_ r0_ r1_ hHeld ⊢
              have HS := ZM s_
              have BKg := ZM m0_
              have BK1 := ZM m1_
              have HO := ZM r0_
              have HE := ZM r1_
              clear s_ m0_ m1_ r0_ r1_
              refine ZPV (ZB 13 1) 0 62 ?_
              refine ZPV (ZB 13 5) 2 64 ?_
              refine ZPV (ZB 13 21) 4 66 ?_
              refine ZPV (ZB 13 85) 6 68 ?_
              refine ZTV (ZB 13 87) hHeld 1 63 ?_
              refine one_ (i := 3) (N := some 65) (ZB 13 95) rfl rfl (by kernel_rfl) (by decide) (fun K hK => ?_)
              refine goes_ Tryd.func19 (by kernel_rfl) rfl #[.pointer (some ⟨g + 2, 0, none⟩)] (by rfl) rfl rfl (by (try simp only [List.map_toArray, List.map_cons, List.map_nil]); first | done | rfl) ?_
              refine (Gc.rbyte w1 (g + 2) _ _ _ HS.out).mono ?_
              rintro e w_3 ⟨rfl, h_, k_⟩
              refine ⟨_, rfl, ?_⟩
              have m0_ := ZM (KeepBut.blk k_ BKg.out NEg.out (by simp))
              have m1_ := ZM (KeepBut.blk k_ BK1.out NE1.out (by simp))
              have r0_ := ZM (HS.out.row HO.out (by decide) k_)
              have r1_ := ZM (HS.out.row HE.out (by decide) k_)
              clear HS BKg BK1 HO HE
              have HS := ZM h_
              have BKg := m0_
              have BK1 := m1_
              have HO := r0_
              have HE := r1_
              clear h_ k_ m0_ m1_ r0_ r1_
              refine hK.out _ _ ((ZG BKg.out 1).trans rfl) (fun hHeld => ?_)
              clear hK K
              refine norm_ (a' := ?_) ?_ ?_
              rotate_left
              · show Act.put _ (some 65) _ = _
                simp only [Act.put, ZI, ZJ, ZK, i64_w, i32_w]
                rfl
              refine one_ (i := 5) (N := some 67) (ZB 13 127) rfl rfl (by kernel_rfl) (by decide) (fun K hK => ?_)
              refine goes_ Tryd.func19 (by kernel_rfl) rfl #[.pointer (some ⟨g + 2, 0, none⟩)] (by rfl) rfl rfl (by (try simp only [List.map_toArray, List.map_cons, List.map_nil]); first | done | rfl) ?_
              refine (Gc.rbyte w1 (g + 2) _ _ _ HS.out).mono ?_
              rintro e w_5 ⟨rfl, h_, k_⟩
              refine ⟨_, rfl, ?_⟩
              have m0_ := ZM (KeepBut.blk k_ BKg.out NEg.out (by simp))
              have m1_ := ZM (KeepBut.blk k_ BK1.out NE1.out (by simp))
              have r0_ := ZM (HS.out.row HO.out (by decide) k_)
              have r1_ := ZM (HS.out.row HE.out (by decide) k_)
              clear HS BKg BK1 HO HE
              have HS := ZM h_
              have BKg := m0_
              have BK1 := m1_
              have HO := r0_
              have HE := r1_
              clear h_ k_ m0_ m1_ r0_ r1_
              refine hK.out _ _ ((ZG BKg.out 1).trans rfl) (fun hHeld => ?_)
              clear hK K
              refine norm_ (a' := ?_) ?_ ?_
              rotate_left
              · show Act.put _ (some 67) _ = _
                simp only [Act.put, ZI, ZJ, ZK, i64_w, i32_w]
                rfl
              refine one_ (i := 7) (N := some 69) (ZB 13 255) rfl rfl (by kernel_rfl) (by decide) (fun K hK => ?_)
              refine goes_ Tryd.func19 (by kernel_rfl) rfl #[.pointer (some ⟨g + 2, 0, none⟩)] (by rfl) rfl rfl (by (try simp only [List.map_toArray, List.map_cons, List.map_nil]); first | done | rfl) ?_
              refine (Gc.rbyte w1 (g + 2) _ _ _ HS.out).mono ?_
              rintro e w_7 ⟨rfl, h_, k_⟩
              refine ⟨_, rfl, ?_⟩
              have m0_ := ZM (KeepBut.blk k_ BKg.out NEg.out (by simp))
              have m1_ := ZM (KeepBut.blk k_ BK1.out NE1.out (by simp))
              have r0_ := ZM (HS.out.row HO.out (by decide) k_)
              have r1_ := ZM (HS.out.row HE.out (by decide) k_)
              clear HS BKg BK1 HO HE
              have HS := ZM h_
              have BKg := m0_
              have BK1 := m1_
              have HO := r0_
              have HE := r1_
              clear h_ k_ m0_ m1_ r0_ r1_
              refine hK.out _ _ ((ZG BKg.out 1).trans rfl) (fun hHeld => ?_)
              clear hK K
              refine norm_ (a' := ?_) ?_ ?_
              rotate_left
              · show Act.put _ (some 69) _ = _
                simp only [Act.put, ZI, ZJ, ZK, i64_w, i32_w]
                rfl
              refine ZPV (ZB 13 511) 8 70 ?_
              refine one_ (i := 9) (N := some 71) (ZB 13 1023) rfl rfl (by kernel_rfl) (by decide) (fun K hK => ?_)
              refine value_ (w1 := ?_) (v := ?_) (by rfl) rfl ?_ ?_
              rotate_left 2
              · go_simp
                constructor
                · rfl
                · rfl
              refine hK.out _ _ ((ZG (ZT BKg.out _) 1).trans rfl) (fun hHeld => ?_)
              clear hK K
              refine norm_ (a' := ?_) ?_ ?_
              rotate_left
              · show Act.put _ (some 71) _ = _
                simp only [Act.put, ZI, ZJ, ZK, i64_w, i32_w]
                rfl
              refine one_ (i := 10) (N := some 72) (ZB 13 2047) rfl rfl (by kernel_rfl) (by decide) (fun K hK => ?_)
              refine Kd.R_append_step k42 (w0 := w1) w1.heap.size (by rfl) (.tmp 63) (.tmp 71) 25 42 (.agg #[(.int .i64 0), (.int .i64 0), (.int .i64 0)]) 24 rfl Tryd.underlying25 info42 rfl (by decide) (by omega) u1 es (gcode_Take.edge xs) [.int .i64 (Gc.hd xs), .int .i64 (Gc.hd xs.tail), .int .i64 (Gc.hd xs.tail.tail)] (fun _ => True) (fun _ => False) rfl rfl ?aP (fun _ hk => hk.elim) ?aF ?aO ?aB ?aS ?aL ?_
              (case aP => exact k42_mkM _ _ _ (gcode_Take.edge xs))
              (case aB => exact HS.out.2.1)
              (case aF => exact (fun _ _ => trivial))
              (case aO => exact HE.out)
              (case aS => exact HS.out.2.1.size)
              (case aL => have := HX0.out; omega)
              intro v_ w_a ho hb hg hat
              have m0_ := ZM (blk_grown BKg.out hg (Kd.R_ne HE.out BKg.out (by decide)))
              have m1_ := ZM (blk_grown BK1.out hg (Kd.R_ne HE.out BK1.out (by decide)))
              have s_ := ZM (HS.out.grown hg (HS.out.rowne HE.out (by decide)) hb)
              have r0_ := ZM (Kd.R_over' HO.out (Kd.R_typed HE.out) (by decide) hg)
              obtain ⟨ms, hms⟩ : ∃ ms, ms = es ++ [gcode_Take.edge xs] := ⟨_, rfl⟩
              rw [← hms] at ho
              have HMS := ZM hms
              have HN := ZM ho
              clear HS BKg BK1 HO HE ho hb hg hat hms
              have HS := s_
              have BKg := m0_
              have BK1 := m1_
              have HO := r0_
              clear s_ m0_ m1_ r0_
              obtain ⟨Ao_, co_, eo_⟩ := Kd.R_slice HN.out
              subst eo_
              refine hK.out _ _ ((ZG BKg.out 1).trans rfl) (fun hHeld => ?_)
              clear hK K
              refine norm_ (a' := ?_) ?_ ?_
              rotate_left
              · show Act.put _ (some 72) _ = _
                simp only [Act.put, ZI, ZJ, ZK, i64_w, i32_w]
                rfl
              refine ZPV (ZB 13 4095) 11 73 ?_
              refine last_ (i := 12) (N := none) (ZB 13 8191) rfl rfl (by kernel_rfl) (by decide) (fun K hK => ?_)
              have hs_ : w_a.cell? ⟨g + 3, 1, none⟩ = some u1 := (ZG BKg.out 1).trans rfl
              have hf_ := ZF BKg.out 1
              refine skip_ (w1 := ?_) (by rfl) rfl ?_ ?_
              rotate_left
              · go_simp
                rfl
              refine hK.out _ _ ?_
              clear hK K hs_ hf_
              refine done_ (by kernel_rfl) ?_
              have HWR := ZM (show wrap64 (X - 1) = X - 1 from by have := HX0.out; have := C.out; unfold wrap64; omega)
              go_wp2
              (try rw [HWR.out])
              go_roundw
              case rel =>
               have e_ : X.toNat = (X - 1).toNat + 1 := by have := C.out; omega
               have hp_ := HP.out
               rw [e_, gcode_Take.edges, if_neg (by simp)] at hp_
               rw [← HMS.out] at hp_
               exact ⟨X - 1, _, _, ms, _, rfl, ⟨by have := HX0.out; have := C.out; rw [HMS.out, List.length_append, List.length_cons, List.length_nil]; omega⟩, ⟨hp_⟩, ⟨HS.out.set (p := ⟨g + 3, 1, none⟩) (show g + 2 ≠ g + 3 by omega) (show w1.heap.size ≤ g + 3 from by have := HZ1.out; omega) _⟩, ⟨blk_put BKg.out 1 _ rfl⟩, ⟨blk_far BK1.out (show g ≠ g + 3 by omega) _⟩, ⟨Kd.R_mono (Kd.R_far (p := ⟨g + 3, 1, none⟩) (Kd.R_types HO.out BKg.out (by decide)) (fun _ hk => hk.2) _) (fun _ _ => trivial)⟩, ⟨Kd.R_mono (Kd.R_far (p := ⟨g + 3, 1, none⟩) (Kd.R_types HN.out BKg.out (by decide)) (fun _ hk => hk.2) _) (fun _ _ => trivial)⟩⟩
              case measure => have := C.out; simp [intOf]; omega
            · have HQ : Aside0 (gcode_Take.q (gcode_Take.p l0) = (true, xs, es)) := ⟨by
                have hp_ := HP.out
                rw [← hp_, show X.toNat = (X - 1).toNat + 1 from by omega, gcode_Take.edges, if_pos rfl]⟩
              clear c
              obtain ⟨⟨A_, c_, hb_, hc_, hC_⟩, hB_, hr_, hx_⟩ := HS.out
              have cb1 : wr.cell? ⟨g + 2, 1, none⟩ = some (.bool true) := (ZG hb_ 1).trans rfl
              have cb0 : wr.cell? ⟨g + 2, 0, none⟩ = some (.slice A_ xs.length c_) := (ZG hb_ 0).trans rfl
              have HBF := ZM (HB1.out.trans (hB_.mono HBW.out))
              have HGE := ZM (show w.heap.size ≤ g from Nat.le_of_eq HG.out.symm)
              have H2 := H.out
              rw [HQ.out, HPQ.out] at H2
              clear hb_ hc_ hC_ hB_ hr_ hx_
              have cr0 : wr.cell? ⟨g, 0, none⟩ = some (.slice none 0 0) := (ZG BK1.out 0).trans rfl
              have cr1 : wr.cell? ⟨g, 1, none⟩ = some (.slice none 0 0) := (ZG BK1.out 1).trans rfl
              have fr0 := ZF BK1.out 0
              have fr1 := ZF BK1.out 1
              simp only [Bool.true_or, if_true, Option.some.injEq, Prod.mk.injEq] at H2
              obtain ⟨rfl, rfl, rfl⟩ := H2
              go_wp2
              refine bodyPost_ret (results_ct rfl _ _ g 27 #[.slice none 0 0, .slice none 0 0] (0, 0) _ rfl (blk_put (cs := #[.slice none 0 0, .slice none 0 0]) (blk_put (cs := #[.slice none 0 0, .slice none 0 0]) BK1.out 0 _ rfl) 1 _ rfl) Tryd.underlying27 rfl (by kernel_rfl)) rfl ?_
              exact ⟨_, _, rfl, Kd.R_nil _ _ _ _ _, Kd.R_nil _ _ _ _ _, (HBF.out.setCell (p := ⟨g, 0, none⟩) HGE.out _).setCell (p := ⟨g, 1, none⟩) HGE.out _⟩
          · have d : decide (0 < X) = false := decide_eq_false c
            have HQ : Aside0 (gcode_Take.q (gcode_Take.p l0) = (bad, xs, es)) := ⟨by
              have hp_ := HP.out
              rw [← hp_, show X.toNat = 0 from by omega, gcode_Take.edges]⟩
            clear c
            obtain ⟨⟨A_, c_, hb_, hc_, hC_⟩, hB_, hr_, hx_⟩ := HS.out
            have cb1 : wr.cell? ⟨g + 2, 1, none⟩ = some (.bool bad) := (ZG hb_ 1).trans rfl
            have cb0 : wr.cell? ⟨g + 2, 0, none⟩ = some (.slice A_ xs.length c_) := (ZG hb_ 0).trans rfl
            have HBF := ZM (HB1.out.trans (hB_.mono HBW.out))
            have HGE := ZM (show w.heap.size ≤ g from Nat.le_of_eq HG.out.symm)
            have H2 := H.out
            rw [HQ.out, HPQ.out] at H2
            clear hb_ hc_ hC_ hB_ hr_ hx_
            have cr0 : wr.cell? ⟨g, 0, none⟩ = some (.slice none 0 0) := (ZG BK1.out 0).trans rfl
            have cr1 : wr.cell? ⟨g, 1, none⟩ = some (.slice none 0 0) := (ZG BK1.out 1).trans rfl
            have fr0 := ZF BK1.out 0
            have fr1 := ZF BK1.out 1
            cases bad
            · by_cases hl_ : xs = []
              · subst hl_
                simp only [List.isEmpty_nil, Bool.not_true, Bool.or_false, Bool.false_eq_true, if_false, Option.some.injEq, Prod.mk.injEq] at H2
                obtain ⟨rfl, rfl, rfl⟩ := H2
                have cg0 : wr.cell? ⟨g + 3, 0, none⟩ = some u0 := (ZG BKg.out 0).trans rfl
                have cg1 : wr.cell? ⟨g + 3, 1, none⟩ = some u1 := (ZG BKg.out 1).trans rfl
                have fg0 := ZF BKg.out 0
                have fg1 := ZF BKg.out 1
                obtain ⟨Ao_, co_, eo_⟩ := Kd.R_slice HO.out
                subst eo_
                obtain ⟨Ae_, ce_, ee_⟩ := Kd.R_slice HE.out
                subst ee_
                have nn_ : g ≠ g + 3 := by omega
                have nm_ : g + 3 ≠ g := by omega
                go_wp2
                refine bodyPost_ret (results_ct rfl _ _ g 27 #[.slice Ao_ ns.length co_, .slice Ae_ es.length ce_] (0, 0) _ rfl (blk_put (cs := #[.slice Ao_ ns.length co_, .slice none 0 0]) (blk_put (cs := #[.slice none 0 0, .slice none 0 0]) BK1.out 0 _ rfl) 1 _ rfl) Tryd.underlying27 rfl (by kernel_rfl)) rfl ?_
                exact ⟨_, _, rfl, Kd.R_lower (Kd.R_mono (Kd.R_far (p := ⟨g, 1, none⟩) (Kd.R_far (p := ⟨g, 0, none⟩) (Kd.R_types HO.out BK1.out (by decide)) (fun _ hk => hk.2) _) (fun _ hk => hk.2) _) (fun _ _ => trivial)) HBW.out, Kd.R_lower (Kd.R_mono (Kd.R_far (p := ⟨g, 1, none⟩) (Kd.R_far (p := ⟨g, 0, none⟩) (Kd.R_types HE.out BK1.out (by decide)) (fun _ hk => hk.2) _) (fun _ hk => hk.2) _) (fun _ _ => trivial)) HBW.out, (HBF.out.setCell (p := ⟨g, 0, none⟩) HGE.out _).setCell (p := ⟨g, 1, none⟩) HGE.out _⟩
              · have he_ : xs.isEmpty = false := by cases xs with | nil => exact absurd rfl hl_ | cons x t => rfl
                have d_ : decide ((0 : Int) < (xs.length : Int)) = true := decide_eq_true (by have := List.length_pos_iff.2 hl_; omega)
                have dn_ : (0 < xs.length) = True := eq_true (List.length_pos_iff.2 hl_)
                simp only [he_, Bool.not_false, Bool.or_true, if_true, Option.some.injEq, Prod.mk.injEq] at H2
                obtain ⟨rfl, rfl, rfl⟩ := H2
                clear hl_ he_
                go_wp2
                refine bodyPost_ret (results_ct rfl _ _ g 27 #[.slice none 0 0, .slice none 0 0] (0, 0) _ rfl (blk_put (cs := #[.slice none 0 0, .slice none 0 0]) (blk_put (cs := #[.slice none 0 0, .slice none 0 0]) BK1.out 0 _ rfl) 1 _ rfl) Tryd.underlying27 rfl (by kernel_rfl)) rfl ?_
                exact ⟨_, _, rfl, Kd.R_nil _ _ _ _ _, Kd.R_nil _ _ _ _ _, (HBF.out.setCell (p := ⟨g, 0, none⟩) HGE.out _).setCell (p := ⟨g, 1, none⟩) HGE.out _⟩
            · simp only [Bool.true_or, if_true, Option.some.injEq, Prod.mk.injEq] at H2
              obtain ⟨rfl, rfl, rfl⟩ := H2
              go_wp2
              refine bodyPost_ret (results_ct rfl _ _ g 27 #[.slice none 0 0, .slice none 0 0] (0, 0) _ rfl (blk_put (cs := #[.slice none 0 0, .slice none 0 0]) (blk_put (cs := #[.slice none 0 0, .slice none 0 0]) BK1.out 0 _ rfl) 1 _ rfl) Tryd.underlying27 rfl (by kernel_rfl)) rfl ?_
              exact ⟨_, _, rfl, Kd.R_nil _ _ _ _ _, Kd.R_nil _ _ _ _ _, (HBF.out.setCell (p := ⟨g, 0, none⟩) HGE.out _).setCell (p := ⟨g, 1, none⟩) HGE.out _⟩
    · have d : decide (0 < X) = false := decide_eq_false c
      have HPQ : Aside0 (gcode_Take.p l0 = (bad, xs, ns)) := ⟨by
        have hp_ := HP.out
        rw [← hp_, show X.toNat = 0 from by omega, gcode_Take.nodes]⟩
      clear c
      have HD := ZM (gcode_Take.head_le HS.out)
      go_wp2_with (go_at_call 19; refine (Gc.rbyte w1 (g + 2) _ _ _ HS.out).mono ?_; rintro e w3 ⟨rfl, h_, k_⟩; have m0_ := ZM (KeepBut.blk k_ BKg.out NEg.out (by simp)); have m1_ := ZM (KeepBut.blk k_ BK1.out NE1.out (by simp)); have r0_ := ZM (HS.out.row HO.out (by decide) k_); clear HS BKg BK1 HO; have HS := ZM h_; have BKg := m0_; have BK1 := m1_; have HO := r0_; clear h_ k_ m0_ m1_ r0_)
      clear d cbad
      go_loopw [9] (fun v9 w' => ∃ (X : Int) (bad : Bool) (ys : List Int) (es : List (S42)) (u1 : Value), v9 = .int .i64 X ∧ Aside0 (0 ≤ X ∧ X.toNat + es.length ≤ 255) ∧ Aside0 (gcode_Take.edges X.toNat bad ys es = gcode_Take.q (gcode_Take.p l0)) ∧ Aside0 (Gc.RSt w1 (g + 2) bad ys w') ∧ Aside0 (w'.heap[g + 3]? = some (.cells #[u0, u1] 27 (0, 0))) ∧ Aside0 (w'.heap[g]? = some (.cells #[.slice none 0 0, .slice none 0 0] 27 (0, 0))) ∧ Aside0 (Kd.R k40 40 w' w1.heap.size (fun _ => True) u0 ns) ∧ Aside0 (Kd.R k42 42 w' w1.heap.size (fun _ => True) u1 es)) (fun v9 _ => (intOf v9).toNat)
      case atStart => exact ⟨Gc.hd xs, _, xs.tail, [], .slice none 0 0, rfl, ⟨by have := HD.out; rw [List.length_nil]; omega⟩, ⟨by rw [HPQ.out]; rfl⟩, HS, BKg, BK1, HO, ⟨Kd.R_nil _ _ _ _ _⟩⟩
      case round =>
        clear HS BKg BK1 HD HO HX0 HP
        obtain ⟨X, bad, xs, es, u1, rfl, HX0, HP, HS, BKg, BK1, HO, HE⟩ := hrel
        have cbad : wr.cell? ⟨g + 2, 1, none⟩ = some (.bool bad) := HS.out.bad1
        by_cases c : 0 < X
        · have d : decide (0 < X) = true := decide_eq_true c
          cases bad
          · have C := ZM c
            clear c
            go_upto_region 11 with (fail)
            refine start_ (n := 13) (S := fun w' => w'.cell? ⟨g + 3, 1, none⟩ = some u1) (ds := [12]) #[false, false, false, false, false, false, false, false, false, false, false, false, false] (by kernel_rfl) rfl rfl ((ZG BKg.out 1).trans rfl) (fun hHeld => ?_)
            have s_ := HS.out.drew
            have m0_ : wr.drew.heap[g + 3]? = some (.cells #[u0, u1] 27 (0, 0)) := BKg.out
            have m1_ : wr.drew.heap[g]? = some (.cells #[.slice none 0 0, .slice none 0 0] 27 (0, 0)) := BK1.out
            have r0_ := ZZ HO.out
            have r1_ := ZZ HE.out
            clear HS cbad BKg BK1 HO HE
            generalize wr.drew = w30 at s_ m0_ m1_ r0_ r1_ hHeld ⊢
            have HS := ZM s_
            have BKg := ZM m0_
            have BK1 := ZM m1_
            have HO := ZM r0_
            have HE := ZM r1_
            clear s_ m0_ m1_ r0_ r1_
            refine ZPV (ZB 13 1) 0 62 ?_
            refine ZPV (ZB 13 5) 2 64 ?_
            refine ZPV (ZB 13 21) 4 66 ?_
            refine ZPV (ZB 13 85) 6 68 ?_
            refine ZTV (ZB 13 87) hHeld 1 63 ?_
            refine one_ (i := 3) (N := some 65) (ZB 13 95) rfl rfl (by kernel_rfl) (by decide) (fun K hK => ?_)
            refine goes_ Tryd.func19 (by kernel_rfl) rfl #[.pointer (some ⟨g + 2, 0, none⟩)] (by rfl) rfl rfl (by (try simp only [List.map_toArray, List.map_cons, List.map_nil]); first | done | rfl) ?_
            refine (Gc.rbyte w1 (g + 2) _ _ _ HS.out).mono ?_
            rintro e w_3 ⟨rfl, h_, k_⟩
            refine ⟨_, rfl, ?_⟩
            have m0_ := ZM (KeepBut.blk k_ BKg.out NEg.out (by simp))
            have m1_ := ZM (KeepBut.blk k_ BK1.out NE1.out (by simp))
            have r0_ := ZM (HS.out.row HO.out (by decide) k_)
            have r1_ := ZM (HS.out.row HE.out (by decide) k_)
            clear HS BKg BK1 HO HE
            have HS := ZM h_
            have BKg := m0_
            have BK1 := m1_
            have HO := r0_
            have HE := r1_
            clear h_ k_ m0_ m1_ r0_ r1_
            refine hK.out _ _ ((ZG BKg.out 1).trans rfl) (fun hHeld => ?_)
            clear hK K
            refine norm_ (a' := ?_) ?_ ?_
            rotate_left
            · show Act.put _ (some 65) _ = _
              simp only [Act.put, ZI, ZJ, ZK, i64_w, i32_w]
              rfl
            refine one_ (i := 5) (N := some 67) (ZB 13 127) rfl rfl (by kernel_rfl) (by decide) (fun K hK => ?_)
            refine goes_ Tryd.func19 (by kernel_rfl) rfl #[.pointer (some ⟨g + 2, 0, none⟩)] (by rfl) rfl rfl (by (try simp only [List.map_toArray, List.map_cons, List.map_nil]); first | done | rfl) ?_
            refine (Gc.rbyte w1 (g + 2) _ _ _ HS.out).mono ?_
            rintro e w_5 ⟨rfl, h_, k_⟩
            refine ⟨_, rfl, ?_⟩
            have m0_ := ZM (KeepBut.blk k_ BKg.out NEg.out (by simp))
            have m1_ := ZM (KeepBut.blk k_ BK1.out NE1.out (by simp))
            have r0_ := ZM (HS.out.row HO.out (by decide) k_)
            have r1_ := ZM (HS.out.row HE.out (by decide) k_)
            clear HS BKg BK1 HO HE
            have HS := ZM h_
            have BKg := m0_
            have BK1 := m1_
            have HO := r0_
            have HE := r1_
            clear h_ k_ m0_ m1_ r0_ r1_
            refine hK.out _ _ ((ZG BKg.out 1).trans rfl) (fun hHeld => ?_)
            clear hK K
            refine norm_ (a' := ?_) ?_ ?_
            rotate_left
            · show Act.put _ (some 67) _ = _
              simp only [Act.put, ZI, ZJ, ZK, i64_w, i32_w]
              rfl
            refine one_ (i := 7) (N := some 69) (ZB 13 255) rfl rfl (by kernel_rfl) (by decide) (fun K hK => ?_)
            refine goes_ Tryd.func19 (by kernel_rfl) rfl #[.pointer (some ⟨g + 2, 0, none⟩)] (by rfl) rfl rfl (by (try simp only [List.map_toArray, List.map_cons, List.map_nil]); first | done | rfl) ?_
            refine (Gc.rbyte w1 (g + 2) _ _ _ HS.out).mono ?_
            rintro e w_7 ⟨rfl, h_, k_⟩
            refine ⟨_, rfl, ?_⟩
            have m0_ := ZM (KeepBut.blk k_ BKg.out NEg.out (by simp))
            have m1_ := ZM (KeepBut.blk k_ BK1.out NE1.out (by simp))
            have r0_ := ZM (HS.out.row HO.out (by decide) k_)
            have r1_ := ZM (HS.out.row HE.out (by decide) k_)
            clear HS BKg BK1 HO HE
            have HS := ZM h_
            have BKg := m0_
            have BK1 := m1_
            have HO := r0_
            have HE := r1_
            clear h_ k_ m0_ m1_ r0_ r1_
            refine hK.out _ _ ((ZG BKg.out 1).trans rfl) (fun hHeld => ?_)
            clear hK K
            refine norm_ (a' := ?_) ?_ ?_
            rotate_left
            · show Act.put _ (some 69) _ = _
              simp only [Act.put, ZI, ZJ, ZK, i64_w, i32_w]
              rfl
            refine ZPV (ZB 13 511) 8 70 ?_
            refine one_ (i := 9) (N := some 71) (ZB 13 1023) rfl rfl (by kernel_rfl) (by decide) (fun K hK => ?_)
            refine value_ (w1 := ?_) (v := ?_) (by rfl) rfl ?_ ?_
            rotate_left 2
            · go_simp
              constructor
              · rfl
              · rfl
            refine hK.out _ _ ((ZG (ZT BKg.out _) 1).trans rfl) (fun hHeld => ?_)
            clear hK K
            refine norm_ (a' := ?_) ?_ ?_
            rotate_left
            · show Act.put _ (some 71) _ = _
              simp only [Act.put, ZI, ZJ, ZK, i64_w, i32_w]
              rfl
            refine one_ (i := 10) (N := some 72) (ZB 13 2047) rfl rfl (by kernel_rfl) (by decide) (fun K hK => ?_)
            refine Kd.R_append_step k42 (w0 := w1) w1.heap.size (by rfl) (.tmp 63) (.tmp 71) 25 42 (.agg #[(.int .i64 0), (.int .i64 0), (.int .i64 0)]) 24 rfl Tryd.underlying25 info42 rfl (by decide) (by omega) u1 es (gcode_Take.edge xs) [.int .i64 (Gc.hd xs), .int .i64 (Gc.hd xs.tail), .int .i64 (Gc.hd xs.tail.tail)] (fun _ => True) (fun _ => False) rfl rfl ?aP (fun _ hk => hk.elim) ?aF ?aO ?aB ?aS ?aL ?_
            (case aP => exact k42_mkM _ _ _ (gcode_Take.edge xs))
            (case aB => exact HS.out.2.1)
            (case aF => exact (fun _ _ => trivial))
            (case aO => exact HE.out)
            (case aS => exact HS.out.2.1.size)
            (case aL => have := HX0.out; omega)
            intro v_ w_a ho hb hg hat
            have m0_ := ZM (blk_grown BKg.out hg (Kd.R_ne HE.out BKg.out (by decide)))
            have m1_ := ZM (blk_grown BK1.out hg (Kd.R_ne HE.out BK1.out (by decide)))
            have s_ := ZM (HS.out.grown hg (HS.out.rowne HE.out (by decide)) hb)
            have r0_ := ZM (Kd.R_over' HO.out (Kd.R_typed HE.out) (by decide) hg)
            obtain ⟨ms, hms⟩ : ∃ ms, ms = es ++ [gcode_Take.edge xs] := ⟨_, rfl⟩
            rw [← hms] at ho
            have HMS := ZM hms
            have HN := ZM ho
            clear HS BKg BK1 HO HE ho hb hg hat hms
            have HS := s_
            have BKg := m0_
            have BK1 := m1_
            have HO := r0_
            clear s_ m0_ m1_ r0_
            obtain ⟨Ao_, co_, eo_⟩ := Kd.R_slice HN.out
            subst eo_
            refine hK.out _ _ ((ZG BKg.out 1).trans rfl) (fun hHeld => ?_)
            clear hK K
            refine norm_ (a' := ?_) ?_ ?_
            rotate_left
            · show Act.put _ (some 72) _ = _
              simp only [Act.put, ZI, ZJ, ZK, i64_w, i32_w]
              rfl
            refine ZPV (ZB 13 4095) 11 73 ?_
            refine last_ (i := 12) (N := none) (ZB 13 8191) rfl rfl (by kernel_rfl) (by decide) (fun K hK => ?_)
            have hs_ : w_a.cell? ⟨g + 3, 1, none⟩ = some u1 := (ZG BKg.out 1).trans rfl
            have hf_ := ZF BKg.out 1
            refine skip_ (w1 := ?_) (by rfl) rfl ?_ ?_
            rotate_left
            · go_simp
              rfl
            refine hK.out _ _ ?_
            clear hK K hs_ hf_
            refine done_ (by kernel_rfl) ?_
            have HWR := ZM (show wrap64 (X - 1) = X - 1 from by have := HX0.out; have := C.out; unfold wrap64; omega)
            go_wp2
            (try rw [HWR.out])
            go_roundw
            case rel =>
             have e_ : X.toNat = (X - 1).toNat + 1 := by have := C.out; omega
             have hp_ := HP.out
             rw [e_, gcode_Take.edges, if_neg (by simp)] at hp_
             rw [← HMS.out] at hp_
             exact ⟨X - 1, _, _, ms, _, rfl, ⟨by have := HX0.out; have := C.out; rw [HMS.out, List.length_append, List.length_cons, List.length_nil]; omega⟩, ⟨hp_⟩, ⟨HS.out.set (p := ⟨g + 3, 1, none⟩) (show g + 2 ≠ g + 3 by omega) (show w1.heap.size ≤ g + 3 from by have := HZ1.out; omega) _⟩, ⟨blk_put BKg.out 1 _ rfl⟩, ⟨blk_far BK1.out (show g ≠ g + 3 by omega) _⟩, ⟨Kd.R_mono (Kd.R_far (p := ⟨g + 3, 1, none⟩) (Kd.R_types HO.out BKg.out (by decide)) (fun _ hk => hk.2) _) (fun _ _ => trivial)⟩, ⟨Kd.R_mono (Kd.R_far (p := ⟨g + 3, 1, none⟩) (Kd.R_types HN.out BKg.out (by decide)) (fun _ hk => hk.2) _) (fun _ _ => trivial)⟩⟩
            case measure => have := C.out; simp [intOf]; omega
          · have HQ : Aside0 (gcode_Take.q (gcode_Take.p l0) = (true, xs, es)) := ⟨by
              have hp_ := HP.out
              rw [← hp_, show X.toNat = (X - 1).toNat + 1 from by omega, gcode_Take.edges, if_pos rfl]⟩
            clear c
            obtain ⟨⟨A_, c_, hb_, hc_, hC_⟩, hB_, hr_, hx_⟩ := HS.out
            have cb1 : wr.cell? ⟨g + 2, 1, none⟩ = some (.bool true) := (ZG hb_ 1).trans rfl
            have cb0 : wr.cell? ⟨g + 2, 0, none⟩ = some (.slice A_ xs.length c_) := (ZG hb_ 0).trans rfl
            have HBF := ZM (HB1.out.trans (hB_.mono HBW.out))
            have HGE := ZM (show w.heap.size ≤ g from Nat.le_of_eq HG.out.symm)
            have H2 := H.out
            rw [HQ.out, HPQ.out] at H2
            clear hb_ hc_ hC_ hB_ hr_ hx_
            have cr0 : wr.cell? ⟨g, 0, none⟩ = some (.slice none 0 0) := (ZG BK1.out 0).trans rfl
            have cr1 : wr.cell? ⟨g, 1, none⟩ = some (.slice none 0 0) := (ZG BK1.out 1).trans rfl
            have fr0 := ZF BK1.out 0
            have fr1 := ZF BK1.out 1
            simp only [Bool.true_or, if_true, Option.some.injEq, Prod.mk.injEq] at H2
            obtain ⟨rfl, rfl, rfl⟩ := H2
            go_wp2
            refine bodyPost_ret (results_ct rfl _ _ g 27 #[.slice none 0 0, .slice none 0 0] (0, 0) _ rfl (blk_put (cs := #[.slice none 0 0, .slice none 0 0]) (blk_put (cs := #[.slice none 0 0, .slice none 0 0]) BK1.out 0 _ rfl) 1 _ rfl) Tryd.underlying27 rfl (by kernel_rfl)) rfl ?_
            exact ⟨_, _, rfl, Kd.R_nil _ _ _ _ _, Kd.R_nil _ _ _ _ _, (HBF.out.setCell (p := ⟨g, 0, none⟩) HGE.out _).setCell (p := ⟨g, 1, none⟩) HGE.out _⟩
        · have d : decide (0 < X) = false := decide_eq_false c
          have HQ : Aside0 (gcode_Take.q (gcode_Take.p l0) = (bad, xs, es)) := ⟨by
            have hp_ := HP.out
            rw [← hp_, show X.toNat = 0 from by omega, gcode_Take.edges]⟩
          clear c
          obtain ⟨⟨A_, c_, hb_, hc_, hC_⟩, hB_, hr_, hx_⟩ := HS.out
          have cb1 : wr.cell? ⟨g + 2, 1, none⟩ = some (.bool bad) := (ZG hb_ 1).trans rfl
          have cb0 : wr.cell? ⟨g + 2, 0, none⟩ = some (.slice A_ xs.length c_) := (ZG hb_ 0).trans rfl
          have HBF := ZM (HB1.out.trans (hB_.mono HBW.out))
          have HGE := ZM (show w.heap.size ≤ g from Nat.le_of_eq HG.out.symm)
          have H2 := H.out
          rw [HQ.out, HPQ.out] at H2
          clear hb_ hc_ hC_ hB_ hr_ hx_
          have cr0 : wr.cell? ⟨g, 0, none⟩ = some (.slice none 0 0) := (ZG BK1.out 0).trans rfl
          have cr1 : wr.cell? ⟨g, 1, none⟩ = some (.slice none 0 0) := (ZG BK1.out 1).trans rfl
          have fr0 := ZF BK1.out 0
          have fr1 := ZF BK1.out 1
          cases bad
          · by_cases hl_ : xs = []
            · subst hl_
              simp only [List.isEmpty_nil, Bool.not_true, Bool.or_false, Bool.false_eq_true, if_false, Option.some.injEq, Prod.mk.injEq] at H2
              obtain ⟨rfl, rfl, rfl⟩ := H2
              have cg0 : wr.cell? ⟨g + 3, 0, none⟩ = some u0 := (ZG BKg.out 0).trans rfl
              have cg1 : wr.cell? ⟨g + 3, 1, none⟩ = some u1 := (ZG BKg.out 1).trans rfl
              have fg0 := ZF BKg.out 0
              have fg1 := ZF BKg.out 1
              obtain ⟨Ao_, co_, eo_⟩ := Kd.R_slice HO.out
              subst eo_
              obtain ⟨Ae_, ce_, ee_⟩ := Kd.R_slice HE.out
              subst ee_
              have nn_ : g ≠ g + 3 := by omega
              have nm_ : g + 3 ≠ g := by omega
              go_wp2
              refine bodyPost_ret (results_ct rfl _ _ g 27 #[.slice Ao_ ns.length co_, .slice Ae_ es.length ce_] (0, 0) _ rfl (blk_put (cs := #[.slice Ao_ ns.length co_, .slice none 0 0]) (blk_put (cs := #[.slice none 0 0, .slice none 0 0]) BK1.out 0 _ rfl) 1 _ rfl) Tryd.underlying27 rfl (by kernel_rfl)) rfl ?_
              exact ⟨_, _, rfl, Kd.R_lower (Kd.R_mono (Kd.R_far (p := ⟨g, 1, none⟩) (Kd.R_far (p := ⟨g, 0, none⟩) (Kd.R_types HO.out BK1.out (by decide)) (fun _ hk => hk.2) _) (fun _ hk => hk.2) _) (fun _ _ => trivial)) HBW.out, Kd.R_lower (Kd.R_mono (Kd.R_far (p := ⟨g, 1, none⟩) (Kd.R_far (p := ⟨g, 0, none⟩) (Kd.R_types HE.out BK1.out (by decide)) (fun _ hk => hk.2) _) (fun _ hk => hk.2) _) (fun _ _ => trivial)) HBW.out, (HBF.out.setCell (p := ⟨g, 0, none⟩) HGE.out _).setCell (p := ⟨g, 1, none⟩) HGE.out _⟩
            · have he_ : xs.isEmpty = false := by cases xs with | nil => exact absurd rfl hl_ | cons x t => rfl
              have d_ : decide ((0 : Int) < (xs.length : Int)) = true := decide_eq_true (by have := List.length_pos_iff.2 hl_; omega)
              have dn_ : (0 < xs.length) = True := eq_true (List.length_pos_iff.2 hl_)
              simp only [he_, Bool.not_false, Bool.or_true, if_true, Option.some.injEq, Prod.mk.injEq] at H2
              obtain ⟨rfl, rfl, rfl⟩ := H2
              clear hl_ he_
              go_wp2
              refine bodyPost_ret (results_ct rfl _ _ g 27 #[.slice none 0 0, .slice none 0 0] (0, 0) _ rfl (blk_put (cs := #[.slice none 0 0, .slice none 0 0]) (blk_put (cs := #[.slice none 0 0, .slice none 0 0]) BK1.out 0 _ rfl) 1 _ rfl) Tryd.underlying27 rfl (by kernel_rfl)) rfl ?_
              exact ⟨_, _, rfl, Kd.R_nil _ _ _ _ _, Kd.R_nil _ _ _ _ _, (HBF.out.setCell (p := ⟨g, 0, none⟩) HGE.out _).setCell (p := ⟨g, 1, none⟩) HGE.out _⟩
          · simp only [Bool.true_or, if_true, Option.some.injEq, Prod.mk.injEq] at H2
            obtain ⟨rfl, rfl, rfl⟩ := H2
            go_wp2
            refine bodyPost_ret (results_ct rfl _ _ g 27 #[.slice none 0 0, .slice none 0 0] (0, 0) _ rfl (blk_put (cs := #[.slice none 0 0, .slice none 0 0]) (blk_put (cs := #[.slice none 0 0, .slice none 0 0]) BK1.out 0 _ rfl) 1 _ rfl) Tryd.underlying27 rfl (by kernel_rfl)) rfl ?_
            exact ⟨_, _, rfl, Kd.R_nil _ _ _ _ _, Kd.R_nil _ _ _ _ _, (HBF.out.setCell (p := ⟨g, 0, none⟩) HGE.out _).setCell (p := ⟨g, 1, none⟩) HGE.out _⟩

end Go.Proofs.YtbjjcolbomaodaaDoor.PTks
