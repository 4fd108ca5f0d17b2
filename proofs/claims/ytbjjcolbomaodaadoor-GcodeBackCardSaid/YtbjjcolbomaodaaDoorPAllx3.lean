-- Laid by hprint.py of this repo: the kit's printer, and contracts by hand beside it. Not trusted: Lean checks it.
import Derived.Test.YtbjjcolbomaodaaDoorPAllx0
namespace Go.Proofs.YtbjjcolbomaodaaDoor.PAll
open Go.RowKit Go.Proofs.YtbjjcolbomaodaaDoorW.PrintWords Go.Proofs.YtbjjcolbomaodaaDoorW.PrintLast Go.Proofs.YtbjjcolbomaodaaDoorW.PrintMore
attribute [local go_sem] max2_int min2_int max_two min_two max_three min_three max_four min_four   -- for this text's walks alone
set_option linter.unusedVariables false
set_option linter.unusedSimpArgs false

/-! ### gcode_Put: function 14 -/
def gcode_Put.nb (n : S40) : List Int := [n.f0 % 256, n.f3 % 256, n.f1 / 256 % 256, n.f1 % 256, n.f2 / 256 % 256, n.f2 % 256]
def gcode_Put.nbad (n : S40) : Bool := Gc.bad1 n.f0 || Gc.bad1 n.f3 || Gc.bad2 n.f1 || Gc.bad2 n.f2
def gcode_Put.eb (e : S42) : List Int := [e.f0 % 256, e.f1 % 256, e.f2 % 256]
def gcode_Put.ebad (e : S42) : Bool := Gc.bad1 e.f0 || Gc.bad1 e.f1 || Gc.bad1 e.f2
def gcode_Put.p1 (ns : List (S40)) (i : Nat) : List Int := [77, 71] ++ [(ns.length : Int) % 256] ++ (ns.take i).flatMap gcode_Put.nb
def gcode_Put.b1 (ns : List (S40)) (i : Nat) : Bool := (false || Gc.bad1 (ns.length : Int)) || (ns.take i).any gcode_Put.nbad
def gcode_Put.p2 (ns : List (S40)) (es : List (S42)) (i : Nat) : List Int := gcode_Put.p1 ns ns.length ++ [(es.length : Int) % 256] ++ (es.take i).flatMap gcode_Put.eb
def gcode_Put.b2 (ns : List (S40)) (es : List (S42)) (i : Nat) : Bool := (gcode_Put.b1 ns ns.length || Gc.bad1 (es.length : Int)) || (es.take i).any gcode_Put.ebad
def gcode_Put.f (l0_0 : List (S40)) (l0_1 : List (S42)) : Option (List Int × Int) := if l0_0.length ≤ 1000 ∧ l0_1.length ≤ 1000 then some (if gcode_Put.b2 l0_0 l0_1 l0_1.length = true then ([], 1) else (gcode_Put.p2 l0_0 l0_1 l0_1.length, 0)) else none
theorem gcode_Put.p1_len (ns : List (S40)) (i : Nat) : (gcode_Put.p1 ns i).length = 3 + 6 * (ns.take i).length := by
  have h : ∀ l : List (S40), (l.flatMap gcode_Put.nb).length = 6 * l.length := by
    intro l
    induction l with
    | nil => rfl
    | cons x l ih => rw [List.flatMap_cons, List.length_append, ih, List.length_cons]; simp [gcode_Put.nb]; omega
  simp [gcode_Put.p1, h]; omega
theorem gcode_Put.p2_len (ns : List (S40)) (es : List (S42)) (i : Nat) : (gcode_Put.p2 ns es i).length = 4 + 6 * ns.length + 3 * (es.take i).length := by
  have h : ∀ l : List (S42), (l.flatMap gcode_Put.eb).length = 3 * l.length := by
    intro l
    induction l with
    | nil => rfl
    | cons x l ih => rw [List.flatMap_cons, List.length_append, ih, List.length_cons]; simp [gcode_Put.eb]; omega
  have h1 := gcode_Put.p1_len ns ns.length
  simp [gcode_Put.p2, h]
  simp at h1
  omega
theorem gcode_Put.p1_step (ns : List (S40)) (i : Nat) (h : i < ns.length) : ((((gcode_Put.p1 ns i ++ [(rd_T40 ns i).f0 % 256]) ++ [(rd_T40 ns i).f3 % 256]) ++ [(rd_T40 ns i).f1 / 256 % 256, (rd_T40 ns i).f1 % 256]) ++ [(rd_T40 ns i).f2 / 256 % 256, (rd_T40 ns i).f2 % 256]) = gcode_Put.p1 ns (i + 1) := by
  have e : rd_T40 ns (i : Int) = ns[i] := by simp [rd_T40, h]
  rw [e]
  unfold gcode_Put.p1
  rw [List.take_succ_eq_append_getElem h, List.flatMap_append]
  simp only [List.flatMap_cons, List.flatMap_nil, List.append_nil, List.append_assoc, List.cons_append, List.nil_append, gcode_Put.nb]
theorem gcode_Put.b1_step (ns : List (S40)) (i : Nat) (h : i < ns.length) : ((((gcode_Put.b1 ns i || Gc.bad1 (rd_T40 ns i).f0) || Gc.bad1 (rd_T40 ns i).f3) || Gc.bad2 (rd_T40 ns i).f1) || Gc.bad2 (rd_T40 ns i).f2) = gcode_Put.b1 ns (i + 1) := by
  have e : rd_T40 ns (i : Int) = ns[i] := by simp [rd_T40, h]
  rw [e]
  unfold gcode_Put.b1
  rw [List.take_succ_eq_append_getElem h, List.any_append]
  simp only [List.any_cons, List.any_nil, Bool.or_false, gcode_Put.nbad, Bool.or_assoc]
theorem gcode_Put.p2_step (ns : List (S40)) (es : List (S42)) (i : Nat) (h : i < es.length) : (((gcode_Put.p2 ns es i ++ [(rd_T42 es i).f0 % 256]) ++ [(rd_T42 es i).f1 % 256]) ++ [(rd_T42 es i).f2 % 256]) = gcode_Put.p2 ns es (i + 1) := by
  have e : rd_T42 es (i : Int) = es[i] := by simp [rd_T42, h]
  rw [e]
  unfold gcode_Put.p2
  rw [List.take_succ_eq_append_getElem h, List.flatMap_append]
  simp only [List.flatMap_cons, List.flatMap_nil, List.append_nil, List.append_assoc, List.cons_append, List.nil_append, gcode_Put.eb]
theorem gcode_Put.b2_step (ns : List (S40)) (es : List (S42)) (i : Nat) (h : i < es.length) : (((gcode_Put.b2 ns es i || Gc.bad1 (rd_T42 es i).f0) || Gc.bad1 (rd_T42 es i).f1) || Gc.bad1 (rd_T42 es i).f2) = gcode_Put.b2 ns es (i + 1) := by
  have e : rd_T42 es (i : Int) = es[i] := by simp [rd_T42, h]
  rw [e]
  unfold gcode_Put.b2
  rw [List.take_succ_eq_append_getElem h, List.any_append]
  simp only [List.any_cons, List.any_nil, Bool.or_false, gcode_Put.ebad, Bool.or_assoc]
theorem gcode_Put.wrap_ok (i n : Nat) (h : i < n) (hn : n ≤ 1000) : wrap64 ((i : Int) + 1) = ((i + 1 : Nat) : Int) := by
  unfold wrap64
  omega
set_option maxHeartbeats 6400000 in
set_option maxRecDepth 100000 in
theorem gcode_Put.calls (A0_0 : Option Addr) (c0_0 : Nat) (l0_0 : List (S40)) (A0_1 : Option Addr) (c0_1 : Nat) (l0_1 : List (S42)) (r1 : List Int) (r2 : Int) (w : World) (hr0_0 : Kd.C k40 w A0_0 l0_0.length l0_0) (hc0_0 : l0_0.length ≤ c0_0) (hr0_1 : Kd.C k42 w A0_1 l0_1.length l0_1) (hc0_1 : l0_1.length ≤ c0_1) (h : gcode_Put.f l0_0 l0_1 = some (r1, r2)) :
    Calls Tryd.prog 14 #[.agg #[.slice A0_0 l0_0.length c0_0, .slice A0_1 l0_1.length c0_1]] w fun e w' => ∃ v0_ : Value, e = .returned (.tuple #[v0_, .int .i64 r2]) ∧ Kd.R (Kd.int .u8) 5 w' w.heap.size (fun _ => True) v0_ r1 ∧ Below w.heap.size w w' := by
  have HR0 := Aside0.mk hr0_0
  have HR1 := Aside0.mk hr0_1
  unfold gcode_Put.f at h
  split at h
  case isFalse => cases h
  case isTrue hl =>
  have HL := Aside0.mk hl
  have H := Aside0.mk h
  clear hr0_0 hr0_1 hc0_0 hc0_1 h hl
  obtain ⟨g, hg⟩ : ∃ g : Nat, g = w.heap.size := ⟨_, rfl⟩
  obtain ⟨W0, hW0⟩ : ∃ W0 : World, W0 = (w.alloc (.cells #[.slice A0_0 l0_0.length c0_0, .slice A0_1 l0_1.length c0_1] 27)).alloc (.cells #[.slice none 0 0, .int .i64 0, .int .i8 0, .bool false] 55) := ⟨_, rfl⟩
  have hz : W0.heap.size = g + 2 := by rw [hW0, hg]; simp
  have hb : W0.heap[g + 1]? = some (.cells #[.slice none 0 0, .int .i64 0, .int .i8 0, .bool false] 55 (0, 0)) := by
    rw [hW0, hg]
    have := blk_new (w.alloc (.cells #[.slice A0_0 l0_0.length c0_0, .slice A0_1 l0_1.length c0_1] 27)) (.cells #[.slice none 0 0, .int .i64 0, .int .i8 0, .bool false] 55)
    simpa using this
  have hgb : W0.heap[g]? = some (.cells #[.slice A0_0 l0_0.length c0_0, .slice A0_1 l0_1.length c0_1] 27 (0, 0)) := by
    rw [hW0, hg]
    rw [Below.heap_alloc _ _ _ (by simp)]
    exact blk_new _ _
  have HBW : Aside0 (Below w.heap.size w W0) := ⟨by rw [hW0]; exact below_alloc (below_alloc (Below.refl w.heap.size w) _) _⟩
  have HS : Aside0 (Gc.St (g + 1) W0 false [] W0) := ⟨⟨LibA.zero_isBuffer (Nat.le_refl _) (lr := 0) ⟨_, hb, rfl, rfl, rfl, fun i hi => by
    unfold Gc.RB
    have h3 : 3 ≤ i := by omega
    rcases Nat.lt_or_ge 3 i with h4 | h4
    · rw [if_neg (by omega)]; exact Array.getElem?_eq_none (by simp; omega)
    · obtain rfl : i = 3 := by omega
      rfl⟩, Below.refl _ _, by omega⟩⟩
  have HGB := Aside0.mk hgb
  have HZ := Aside0.mk hz
  have HG := Aside0.mk hg
  have HW := Aside0.mk hW0
  clear hgb hz hb hW0 hg
  go_enter Tryd.func14, Tryd.ntmps14
  go_wp2_with (go_at_call 23; rw [← HG.out, ← HW.out]; refine HS.out.magic.mono ?_; rintro e w1 ⟨rfl, HS1⟩; replace HS1 := Aside0.mk HS1; have hg0 : w1.cell? ⟨g, 0, none⟩ = some (.slice A0_0 l0_0.length c0_0) := (blk_cell ((HS1.out.2.1.block g (by omega)).trans HGB.out) 0).trans rfl; refine Hid.out ?_)
  refine Lib.hid ?_
  go_wp2_with (go_at_call 24; refine (HS1.out.byte (l0_0.length : Int) (by decide)).mono ?_; rintro e w2 ⟨rfl, HS2, -⟩; replace HS2 := Aside0.mk HS2; clear hg0; have hg0 : w2.cell? ⟨g, 0, none⟩ = some (.slice A0_0 l0_0.length c0_0) := (blk_cell ((HS2.out.2.1.block g (by omega)).trans HGB.out) 0).trans rfl)
  clear hg0
  go_loopw [20] (fun v20 w' => ∃ i : Nat, v20 = .int .i64 (i : Int) ∧ Aside0 (i ≤ l0_0.length) ∧ Aside0 (Gc.St (g + 1) W0 (gcode_Put.b1 l0_0 i) (gcode_Put.p1 l0_0 i) w')) (fun v20 _ => l0_0.length - (intOf v20).toNat)
  case atStart => exact ⟨0, rfl, ⟨Nat.zero_le _⟩, ⟨by have := HS2.out; simpa [gcode_Put.b1, gcode_Put.p1] using this⟩⟩
  case round =>
    clear HS HS1 HS2
    obtain ⟨i, rfl, HI, HS⟩ := hrel
    by_cases c : i < l0_0.length
    · have d : decide ((i : Int) < (l0_0.length : Int)) = true := decide_eq_true (by omega)
      have p0 : (0 : Int) ≤ (i : Int) := by omega
      have p1 : (i : Int) < (l0_0.length : Int) := by omega
      have HBn := Aside0.mk (HBW.out.trans ((HS.out.2.1).mono (show w.heap.size ≤ g + 1 from by have := HG.out; omega)))
      obtain ⟨ad, rfl, hx0, hx1, hx2, hx3⟩ := at_T40 (Kd.C_below HR0.out HBn.out) (i : Int) p0 p1
      simp only [Int.toNat_natCast] at hx0 hx1 hx2 hx3
      have C := Aside0.mk c
      have HM := Aside0.mk (show (gcode_Put.p1 l0_0 i).length ≤ 7000 from by have := gcode_Put.p1_len l0_0 i; have := HL.out; rw [List.length_take] at *; omega)
      have HNE := Aside0.mk (show wr.heap.size ≠ g + 1 from by have := HS.out.lt; omega)
      have HWR := Aside0.mk (gcode_Put.wrap_ok i l0_0.length C.out HL.out.1)
      replace p0 := eq_true p0
      replace p1 := eq_true p1
      clear c
      go_wp2_with (go_at_call 24; refine ((HS.out.alloc (.cells #[.int .i64 (rd_T40 l0_0 (i : Int)).f0, .int .i64 (rd_T40 l0_0 (i : Int)).f1, .int .i64 (rd_T40 l0_0 (i : Int)).f2, .int .i64 (rd_T40 l0_0 (i : Int)).f3] 40)).byte (rd_T40 l0_0 (i : Int)).f0 (by have := HM.out; (try simp only [List.length_append, List.length_cons, List.length_nil]); omega)).mono ?_; rintro e w3 ⟨rfl, T1, k_⟩; replace T1 := Aside0.mk T1; have B1 := Aside0.mk (Gc.kept k_ (blk_new wr (.cells #[.int .i64 (rd_T40 l0_0 (i : Int)).f0, .int .i64 (rd_T40 l0_0 (i : Int)).f1, .int .i64 (rd_T40 l0_0 (i : Int)).f2, .int .i64 (rd_T40 l0_0 (i : Int)).f3] 40)) HNE.out (by decide)); clear k_; have cx : w3.cell? ⟨wr.heap.size, 3, none⟩ = some (.int .i64 (rd_T40 l0_0 (i : Int)).f3) := (blk_cell B1.out 3).trans rfl; refine Hid.out ?_)
      refine Lib.hid ?_
      go_wp2_with (go_at_call 24; refine ((T1.out).byte (rd_T40 l0_0 (i : Int)).f3 (by have := HM.out; (try simp only [List.length_append, List.length_cons, List.length_nil]); omega)).mono ?_; clear cx; rintro e w4 ⟨rfl, T2, k_⟩; replace T2 := Aside0.mk T2; have B2 := Aside0.mk (Gc.kept k_ B1.out HNE.out (by decide)); clear k_; have cx : w4.cell? ⟨wr.heap.size, 1, none⟩ = some (.int .i64 (rd_T40 l0_0 (i : Int)).f1) := (blk_cell B2.out 1).trans rfl; refine Hid.out ?_)
      refine Lib.hid ?_
      go_wp2_with (go_at_call 25; refine ((T2.out).two (rd_T40 l0_0 (i : Int)).f1 (by have := HM.out; (try simp only [List.length_append, List.length_cons, List.length_nil]); omega)).mono ?_; clear cx; rintro e w5 ⟨rfl, T3, k_⟩; replace T3 := Aside0.mk T3; have B3 := Aside0.mk (Gc.kept k_ B2.out HNE.out (by decide)); clear k_; have cx : w5.cell? ⟨wr.heap.size, 2, none⟩ = some (.int .i64 (rd_T40 l0_0 (i : Int)).f2) := (blk_cell B3.out 2).trans rfl; refine Hid.out ?_)
      refine Lib.hid ?_
      go_wp2_with (go_at_call 25; refine ((T3.out).two (rd_T40 l0_0 (i : Int)).f2 (by have := HM.out; (try simp only [List.length_append, List.length_cons, List.length_nil]); omega)).mono ?_; clear cx; rintro e w6 ⟨rfl, T4, k_⟩; replace T4 := Aside0.mk T4; have B4 := Aside0.mk (Gc.kept k_ B3.out HNE.out (by decide)); clear k_)
      clear hx0 hx1 hx2 hx3 d p0 p1
      try rw [HWR.out]
      go_roundw
      case rel => exact ⟨i + 1, rfl, ⟨by have := C.out; omega⟩, ⟨by rw [← gcode_Put.b1_step l0_0 i C.out, ← gcode_Put.p1_step l0_0 i C.out]; exact T4.out⟩⟩
      case measure => have := C.out; simp [intOf]; omega
    · have d : decide ((i : Int) < (l0_0.length : Int)) = false := decide_eq_false (by omega)
      obtain rfl : i = l0_0.length := by have := HI.out; omega
      have HM := Aside0.mk (show (gcode_Put.p1 l0_0 l0_0.length).length ≤ 7000 from by have := gcode_Put.p1_len l0_0 l0_0.length; have := HL.out; rw [List.length_take] at *; omega)
      have hg1 : wr.cell? ⟨g, 1, none⟩ = some (.slice A0_1 l0_1.length c0_1) := (blk_cell ((HS.out.2.1.block g (by omega)).trans HGB.out) 1).trans rfl
      clear c
      go_wp2_with (go_at_call 24; refine (HS.out.byte (l0_1.length : Int) (by have := HM.out; omega)).mono ?_; rintro e w3 ⟨rfl, S3, -⟩; replace S3 := Aside0.mk S3; clear hg1; have hg1 : w3.cell? ⟨g, 1, none⟩ = some (.slice A0_1 l0_1.length c0_1) := (blk_cell ((S3.out.2.1.block g (by omega)).trans HGB.out) 1).trans rfl)
      clear hg1 d HM HS HI
      go_loopw [44] (fun v44 w' => ∃ i : Nat, v44 = .int .i64 (i : Int) ∧ Aside0 (i ≤ l0_1.length) ∧ Aside0 (Gc.St (g + 1) W0 (gcode_Put.b2 l0_0 l0_1 i) (gcode_Put.p2 l0_0 l0_1 i) w')) (fun v44 _ => l0_1.length - (intOf v44).toNat)
      case atStart => exact ⟨0, rfl, ⟨Nat.zero_le _⟩, ⟨by have := S3.out; simpa [gcode_Put.b2, gcode_Put.p2] using this⟩⟩
      case round =>
        clear S3
        obtain ⟨i, rfl, HI, HS⟩ := hrel
        by_cases c : i < l0_1.length
        · have d : decide ((i : Int) < (l0_1.length : Int)) = true := decide_eq_true (by omega)
          have p0 : (0 : Int) ≤ (i : Int) := by omega
          have p1 : (i : Int) < (l0_1.length : Int) := by omega
          have HBn := Aside0.mk (HBW.out.trans ((HS.out.2.1).mono (show w.heap.size ≤ g + 1 from by have := HG.out; omega)))
          obtain ⟨ad, rfl, hx0, hx1, hx2⟩ := at_T42 (Kd.C_below HR1.out HBn.out) (i : Int) p0 p1
          simp only [Int.toNat_natCast] at hx0 hx1 hx2
          have C := Aside0.mk c
          have HM := Aside0.mk (show (gcode_Put.p2 l0_0 l0_1 i).length ≤ 10100 from by have := gcode_Put.p2_len l0_0 l0_1 i; have := HL.out; rw [List.length_take] at *; omega)
          obtain ⟨N, hN⟩ : ∃ N : Nat, N = wr.heap.size := ⟨_, rfl⟩
          have HN := Aside0.mk hN
          have HNE := Aside0.mk (show N + 1 ≠ g + 1 from by have := HS.out.lt; omega)
          have HWR := Aside0.mk (gcode_Put.wrap_ok i l0_1.length C.out HL.out.2)
          have T0 : Aside0 (Gc.St (g + 1) W0 (gcode_Put.b2 l0_0 l0_1 i) (gcode_Put.p2 l0_0 l0_1 i) ((wr.alloc (.cells #[.int .i64 (rd_T42 l0_1 (i : Int)).f0, .int .i64 (rd_T42 l0_1 (i : Int)).f1, .int .i64 (rd_T42 l0_1 (i : Int)).f2] 42)).alloc (.cells #[.int .i64 (rd_T42 l0_1 (i : Int)).f0, .int .i64 (rd_T42 l0_1 (i : Int)).f1, .int .i64 (rd_T42 l0_1 (i : Int)).f2] 3))) := ⟨(HS.out.alloc _).alloc _⟩
          have B0 : Aside0 (((wr.alloc (.cells #[.int .i64 (rd_T42 l0_1 (i : Int)).f0, .int .i64 (rd_T42 l0_1 (i : Int)).f1, .int .i64 (rd_T42 l0_1 (i : Int)).f2] 42)).alloc (.cells #[.int .i64 (rd_T42 l0_1 (i : Int)).f0, .int .i64 (rd_T42 l0_1 (i : Int)).f1, .int .i64 (rd_T42 l0_1 (i : Int)).f2] 3)).heap[N + 1]? = some (.cells #[.int .i64 (rd_T42 l0_1 (i : Int)).f0, .int .i64 (rd_T42 l0_1 (i : Int)).f1, .int .i64 (rd_T42 l0_1 (i : Int)).f2] 3 (0, 0))) := ⟨by
            have := blk_new (wr.alloc (.cells #[.int .i64 (rd_T42 l0_1 (i : Int)).f0, .int .i64 (rd_T42 l0_1 (i : Int)).f1, .int .i64 (rd_T42 l0_1 (i : Int)).f2] 42)) (.cells #[.int .i64 (rd_T42 l0_1 (i : Int)).f0, .int .i64 (rd_T42 l0_1 (i : Int)).f1, .int .i64 (rd_T42 l0_1 (i : Int)).f2] 3)
            rw [hN]
            simpa using this⟩
          replace p0 := eq_true p0
          replace p1 := eq_true p1
          clear c hN
          go_wp2
          (try rw [← HN.out])
          clear hx0 hx1 hx2 d p0 p1
          go_loopw [56] (fun v56 w' => ∃ j : Nat, v56 = .int .i64 (j : Int) ∧ Aside0 (j ≤ 3) ∧ Aside0 (Gc.St (g + 1) W0 (gcode_Put.b2 l0_0 l0_1 i || ([(rd_T42 l0_1 (i : Int)).f0, (rd_T42 l0_1 (i : Int)).f1, (rd_T42 l0_1 (i : Int)).f2].take j).any Gc.bad1) (gcode_Put.p2 l0_0 l0_1 i ++ ([(rd_T42 l0_1 (i : Int)).f0, (rd_T42 l0_1 (i : Int)).f1, (rd_T42 l0_1 (i : Int)).f2].take j).map (· % 256)) w') ∧ Aside0 (w'.heap[N + 1]? = some (.cells #[.int .i64 (rd_T42 l0_1 (i : Int)).f0, .int .i64 (rd_T42 l0_1 (i : Int)).f1, .int .i64 (rd_T42 l0_1 (i : Int)).f2] 3 (0, 0)))) (fun v56 _ => 3 - (intOf v56).toNat)
          case atStart => exact ⟨0, rfl, ⟨by omega⟩, ⟨by have := T0.out; simpa using this⟩, B0⟩
          case round =>
            clear T0 B0
            obtain ⟨j, rfl, HJ, T, BL⟩ := hrel
            have j3 : j = 0 ∨ j = 1 ∨ j = 2 ∨ j = 3 := by have := HJ.out; omega
            rcases j3 with rfl | rfl | rfl | rfl
            · have cx : wr.cell? ⟨N + 1, 0, none⟩ = some (.int .i64 (rd_T42 l0_1 (i : Int)).f0) := (blk_cell BL.out 0).trans rfl
              go_wp2_with (go_at_call 24; refine (T.out.byte (rd_T42 l0_1 (i : Int)).f0 (by have := HM.out; simp; omega)).mono ?_; rintro e w4 ⟨rfl, T4, k4⟩; replace T4 := Aside0.mk T4; have B4 := Aside0.mk (Gc.kept k4 BL.out HNE.out (by decide)); clear k4)
              clear cx
              go_roundw
              case rel => exact ⟨1, rfl, ⟨by omega⟩, ⟨by have := T4.out; simpa [Bool.or_assoc] using this⟩, B4⟩
              case measure => simp [intOf]
            · have cx : wr.cell? ⟨N + 1, 1, none⟩ = some (.int .i64 (rd_T42 l0_1 (i : Int)).f1) := (blk_cell BL.out 1).trans rfl
              go_wp2_with (go_at_call 24; refine (T.out.byte (rd_T42 l0_1 (i : Int)).f1 (by have := HM.out; simp; omega)).mono ?_; rintro e w4 ⟨rfl, T4, k4⟩; replace T4 := Aside0.mk T4; have B4 := Aside0.mk (Gc.kept k4 BL.out HNE.out (by decide)); clear k4)
              clear cx
              go_roundw
              case rel => exact ⟨2, rfl, ⟨by omega⟩, ⟨by have := T4.out; simpa [Bool.or_assoc] using this⟩, B4⟩
              case measure => simp [intOf]
            · have cx : wr.cell? ⟨N + 1, 2, none⟩ = some (.int .i64 (rd_T42 l0_1 (i : Int)).f2) := (blk_cell BL.out 2).trans rfl
              go_wp2_with (go_at_call 24; refine (T.out.byte (rd_T42 l0_1 (i : Int)).f2 (by have := HM.out; simp; omega)).mono ?_; rintro e w4 ⟨rfl, T4, k4⟩; replace T4 := Aside0.mk T4; have B4 := Aside0.mk (Gc.kept k4 BL.out HNE.out (by decide)); clear k4)
              clear cx
              go_roundw
              case rel => exact ⟨3, rfl, ⟨by omega⟩, ⟨by have := T4.out; simpa [Bool.or_assoc] using this⟩, B4⟩
              case measure => simp [intOf]
            · go_wp2
              try rw [HWR.out]
              go_roundw
              case rel => exact ⟨i + 1, rfl, ⟨by have := C.out; omega⟩, ⟨by rw [← gcode_Put.b2_step l0_0 l0_1 i C.out, ← gcode_Put.p2_step l0_0 l0_1 i C.out]; have := T.out; simpa [Bool.or_assoc] using this⟩⟩
              case measure => have := C.out; simp [intOf]; omega
        · have d : decide ((i : Int) < (l0_1.length : Int)) = false := decide_eq_false (by omega)
          obtain rfl : i = l0_1.length := by have := HI.out; omega
          have HBn := Aside0.mk (HBW.out.trans ((HS.out.2.1).mono (show w.heap.size ≤ g + 1 from by have := HG.out; omega)))
          have HSZ := Aside0.mk (show w.heap.size ≤ g + 1 from by have := HG.out; omega)
          have H2 := H.out
          clear H
          cases hbad : gcode_Put.b2 l0_0 l0_1 l0_1.length
          · rw [hbad] at HS H2
            have cb : wr.cell? ⟨g + 1, 3, none⟩ = some (.bool false) := HS.out.1.rest 3 (Or.inr (by omega))
            simp only [Bool.false_eq_true, if_false, Option.some.injEq, Prod.mk.injEq] at H2
            obtain ⟨rfl, rfl⟩ := H2
            clear c
            go_wp2_with (go_at_call 26; refine HS.out.result.mono ?_; rintro e w4 ⟨v, rfl, hR, hB⟩; have HR := Aside0.mk (Kd.R_lower hR HSZ.out); have HB := Aside0.mk (HBW.out.trans (hB.mono HSZ.out)); clear hR hB)
            go_ret2
            exact ⟨_, rfl, HR.out, HB.out⟩
          · rw [hbad] at HS H2
            have cb : wr.cell? ⟨g + 1, 3, none⟩ = some (.bool true) := HS.out.1.rest 3 (Or.inr (by omega))
            simp only [if_true, Option.some.injEq, Prod.mk.injEq] at H2
            obtain ⟨rfl, rfl⟩ := H2
            clear c
            go_wp2
            go_ret2
            exact ⟨_, rfl, Kd.R_nil _ _ _ _ _, HBn.out⟩

/-! ### meanderlaw10_shown: function 8 -/
def meanderlaw10_shown.f  : Option (Bool) := (gcode_Put.f (([(⟨1, 0, 0, 0⟩ : S40), (⟨11, 0, 0, 0⟩ : S40)] : List (S40))) (([(⟨0, 1, 0⟩ : S42)] : List (S42)))).bind fun bt107 => (if (strOfNums bt107.1).toList = ([77, 71, 2, 1, 0, 0, 0, 0, 0, 11, 0, 0, 0, 0, 0, 1, 0, 1, 0] : List UInt8) then (some (bt107.2 == 0)) else (some false))
set_option maxHeartbeats 8000000 in
set_option maxRecDepth 100000 in
theorem meanderlaw10_shown.calls  (r : Bool) (w : World) (h : meanderlaw10_shown.f  = some r) :
  Calls Tryd.prog 8 #[] w fun e w' => e = .returned (.bool r) ∧ Below w.heap.size w w' := by
 have hu40 := Tryd.underlying40
 have hu42 := Tryd.underlying42
 have hu27 := Tryd.underlying27
 have HB := Aside0.mk (Below.refl w.heap.size w)
 have H : ((gcode_Put.f (([(⟨1, 0, 0, 0⟩ : S40), (⟨11, 0, 0, 0⟩ : S40)] : List (S40))) (([(⟨0, 1, 0⟩ : S42)] : List (S42)))).bind fun bt107 => (if (strOfNums bt107.1).toList = ([77, 71, 2, 1, 0, 0, 0, 0, 0, 11, 0, 0, 0, 0, 0, 1, 0, 1, 0] : List UInt8) then (some (bt107.2 == 0)) else (some false))) = some r := h
 clear h
 obtain ⟨y101, hy101⟩ : ∃ y_ : List (S40), y_ = (([(⟨1, 0, 0, 0⟩ : S40), (⟨11, 0, 0, 0⟩ : S40)] : List (S40))) := ⟨_, rfl⟩
 replace H : ((gcode_Put.f y101 (([(⟨0, 1, 0⟩ : S42)] : List (S42)))).bind fun bt107 => (if (strOfNums bt107.1).toList = ([77, 71, 2, 1, 0, 0, 0, 0, 0, 11, 0, 0, 0, 0, 0, 1, 0, 1, 0] : List UInt8) then (some (bt107.2 == 0)) else (some false))) = some r := by first | (rw [hy101]; with_reducible exact H) | (have H2_ := (Option.bind_some _ _).symm.trans H; rw [hy101]; with_reducible exact H2_) | (have H2_ := (Option.bind_some _ _).symm.trans H; with_reducible exact H2_) | with_reducible exact H | (rw [hy101]; exact H) | exact H
 have Ny101 := Aside0.mk hy101
 clear hy101
 obtain ⟨y104, hy104⟩ : ∃ y_ : List (S42), y_ = (([(⟨0, 1, 0⟩ : S42)] : List (S42))) := ⟨_, rfl⟩
 replace H : ((gcode_Put.f y101 y104).bind fun bt107 => (if (strOfNums bt107.1).toList = ([77, 71, 2, 1, 0, 0, 0, 0, 0, 11, 0, 0, 0, 0, 0, 1, 0, 1, 0] : List UInt8) then (some (bt107.2 == 0)) else (some false))) = some r := by first | (rw [hy104]; with_reducible exact H) | (have H2_ := (Option.bind_some _ _).symm.trans H; rw [hy104]; with_reducible exact H2_) | (have H2_ := (Option.bind_some _ _).symm.trans H; with_reducible exact H2_) | with_reducible exact H | (rw [hy104]; exact H) | exact H
 have Ny104 := Aside0.mk hy104
 clear hy104
 replace H := Option.bind_eq_some_iff.mp H
 obtain ⟨⟨t107, t110⟩, A10, H⟩ := H
 replace H : (if (strOfNums t107).toList = ([77, 71, 2, 1, 0, 0, 0, 0, 0, 11, 0, 0, 0, 0, 0, 1, 0, 1, 0] : List UInt8) then (some (t110 == 0)) else (some false)) = some r := H
 have A1 := Aside0.mk A10
 clear A10
 by_cases c2 : (strOfNums t107).toList = ([77, 71, 2, 1, 0, 0, 0, 0, 0, 11, 0, 0, 0, 0, 0, 1, 0, 1, 0] : List UInt8)
 ·rw [if_pos c2] at H
  have c2b0 : ((strOfNums t107).toList == ([77, 71, 2, 1, 0, 0, 0, 0, 0, 11, 0, 0, 0, 0, 0, 1, 0, 1, 0] : List UInt8)) = true := beq_iff_eq.mpr c2
  have c2b1 : ((strOfNums t107).toList != ([77, 71, 2, 1, 0, 0, 0, 0, 0, 11, 0, 0, 0, 0, 0, 1, 0, 1, 0] : List UInt8)) = false := bne_eq_false_iff_eq.mpr c2
  clear c2
  obtain rfl := Option.some.inj H
  go_enter Tryd.func8, Tryd.ntmps8
  go_wp2_with (first | ((with_reducible refine gate_dst (N := 6) rfl ?_); refine Kd.R_lit k40 _ 40 ?hg (N := 6) ?hd (xs := ([(⟨1, 0, 0, 0⟩ : S40), (⟨11, 0, 0, 0⟩ : S40)] : List (S40))) (inner := [.int .i64 1, .int .i64 0, .int .i64 0, .int .i64 0, .int .i64 11, .int .i64 0, .int .i64 0, .int .i64 0]) (ok := fun _ => True) (okp := fun _ => True) ?hr ?hp (fun _ hk => hk) trivial (Below.refl _ _) (Nat.le_refl _) (by simp) ?_; (case hd => rfl); (case hg => rfl); (case hr => first | (go_simp; done) | (go_simp; rfl)); (case hp => exact (Reps.c4 (show Kd.M k40 _ _ _ (⟨1, 0, 0, 0⟩ : S40) [.int .i64 1, .int .i64 0, .int .i64 0, .int .i64 0] from (k40_mkM _ _ _ (⟨1, 0, 0, 0⟩ : S40) )) (Reps.c4 (show Kd.M k40 _ _ _ (⟨11, 0, 0, 0⟩ : S40) [.int .i64 11, .int .i64 0, .int .i64 0, .int .i64 0] from (k40_mkM _ _ _ (⟨11, 0, 0, 0⟩ : S40) )) (Reps.none _ _)))); intro v102 w3 ho4 hb hg_ hnew_; clear hg_ hnew_; (first | rw [← Ny101.out] at ho4 | (simp only [Int.reduceToNat] at ho4; rw [← Ny101.out] at ho4)); have n0_ := Aside0.mk (Kd.R_lower ho4 (below_size (by repeat (first | (with_reducible first | exact HB.out | apply below_alloc | apply pw_below_drewN | apply below_drew1) | exact HB.out)))); have n1_ := Aside0.mk (below_step (by repeat (first | (with_reducible first | exact HB.out | apply below_alloc | apply pw_below_drewN | apply below_drew1) | exact HB.out)) hb); clear HB; have HO103 := n0_; have HB := n1_; clear n0_ n1_; clear hb ho4) | ((with_reducible refine gate_dst (N := 8) rfl ?_); refine Kd.R_lit k42 _ 42 ?hg (N := 8) ?hd (xs := ([(⟨0, 1, 0⟩ : S42)] : List (S42))) (inner := [.int .i64 0, .int .i64 1, .int .i64 0]) (ok := fun _ => True) (okp := fun _ => True) ?hr ?hp (fun _ hk => hk) trivial (Below.refl _ _) (Nat.le_refl _) (by simp) ?_; (case hd => rfl); (case hg => rfl); (case hr => first | (go_simp; done) | (go_simp; rfl)); (case hp => exact (Reps.c3 (show Kd.M k42 _ _ _ (⟨0, 1, 0⟩ : S42) [.int .i64 0, .int .i64 1, .int .i64 0] from (k42_mkM _ _ _ (⟨0, 1, 0⟩ : S42) )) (Reps.none _ _))); intro v105 w5 ho6 hb hg_ hnew_; clear hg_ hnew_; (first | rw [← Ny104.out] at ho6 | (simp only [Int.reduceToNat] at ho6; rw [← Ny104.out] at ho6)); have n0_ := Aside0.mk (Kd.R_below (by (with_reducible repeat (first | apply Kd.R_alloc | apply Kd.R_drewN | apply Kd.R_drew)); exact HO103.out) hb); have n1_ := Aside0.mk (Kd.R_lower ho6 (below_size (by repeat (first | (with_reducible first | exact HB.out | apply below_alloc | apply pw_below_drewN | apply below_drew1) | exact HB.out)))); have n2_ := Aside0.mk (below_step (by repeat (first | (with_reducible first | exact HB.out | apply below_alloc | apply pw_below_drewN | apply below_drew1) | exact HB.out)) hb); clear HO103; clear HB; have HO103 := n0_; have HO106 := n1_; have HB := n2_; clear n0_ n1_ n2_; clear hb ho6; obtain ⟨Ao7, co7, eo7⟩ := Kd.R_slice HO106.out; subst eo7; obtain ⟨Ao8, co8, eo8⟩ := Kd.R_slice HO103.out; subst eo8) | ((with_reducible refine gate_callee (f := 14) rfl ?_); refine goesL_ (some 10) rfl rfl Tryd.func14 (by kernel_rfl) rfl #[.agg #[.slice Ao8 y101.length co8, .slice Ao7 y104.length co7]] rfl (by (try simp only [List.map_toArray, List.map_cons, List.map_nil]); first | done | rfl | (simp only [List.length_drop, List.length_take]; rfl)) ?_; (with_reducible refine (gcode_Put.calls _ _ y101 _ _ y104 t107 t110 _ ?side1 ?side2 ?side3 ?side4 A1.out).mono ?_); (case side1 => repeat (first | exact (Kd.R_reads' HO103.out).2.2 | (with_reducible refine Kd.C_alloc ?_ _) | (with_reducible refine Kd.C_drewN ?_ _) | (with_reducible refine Kd.C_drew ?_))); (case side2 => exact (Kd.R_reads' HO103.out).2.1); (case side3 => repeat (first | exact (Kd.R_reads' HO106.out).2.2 | (with_reducible refine Kd.C_alloc ?_ _) | (with_reducible refine Kd.C_drewN ?_ _) | (with_reducible refine Kd.C_drew ?_))); (case side4 => exact (Kd.R_reads' HO106.out).2.1); rintro e w9 ⟨v108, rfl, ho0, hb⟩; refine ⟨_, rfl, ?_⟩; have n0_ := Aside0.mk (Kd.R_below (by (with_reducible repeat (first | apply Kd.R_alloc | apply Kd.R_drewN | apply Kd.R_drew)); exact HO103.out) hb); have n1_ := Aside0.mk (Kd.R_below (by (with_reducible repeat (first | apply Kd.R_alloc | apply Kd.R_drewN | apply Kd.R_drew)); exact HO106.out) hb); have n2_ := Aside0.mk (Kd.R_lower ho0 (below_size (by repeat (first | (with_reducible first | exact HB.out | apply below_alloc | apply pw_below_drewN | apply below_drew1) | exact HB.out)))); have n3_ := Aside0.mk (below_step (by repeat (first | (with_reducible first | exact HB.out | apply below_alloc | apply pw_below_drewN | apply below_drew1) | exact HB.out)) hb); clear HO103; clear HO106; clear HB; have HO103 := n0_; have HO106 := n1_; have HO109 := n2_; have HB := n3_; clear n0_ n1_ n2_ n3_; (try clear hb); (try clear hb2); (try clear hk); (try clear hi); (try clear ho0); have hcv10 := own_string (P := Tryd.prog) Tryd.underlying22 Tryd.underlying5 Tryd.underlying9 (Kd.own_of_R HO109.out)))
  go_ret
  exact ⟨by first | rfl | (simp [errW_none, errW_some] <;> rfl) | (simp [*, errW_none, errW_some] <;> rfl), by repeat (first | (with_reducible first | exact HB.out | apply below_alloc | apply pw_below_drewN | apply below_drew1) | exact HB.out)⟩
 ·rw [if_neg c2] at H
  have c2b0 : ((strOfNums t107).toList == ([77, 71, 2, 1, 0, 0, 0, 0, 0, 11, 0, 0, 0, 0, 0, 1, 0, 1, 0] : List UInt8)) = false := beq_eq_false_iff_ne.mpr c2
  have c2b1 : ((strOfNums t107).toList != ([77, 71, 2, 1, 0, 0, 0, 0, 0, 11, 0, 0, 0, 0, 0, 1, 0, 1, 0] : List UInt8)) = true := bne_iff_ne.mpr c2
  obtain rfl := Option.some.inj H
  go_enter Tryd.func8, Tryd.ntmps8
  go_wp2_with (first | ((with_reducible refine gate_dst (N := 6) rfl ?_); refine Kd.R_lit k40 _ 40 ?hg (N := 6) ?hd (xs := ([(⟨1, 0, 0, 0⟩ : S40), (⟨11, 0, 0, 0⟩ : S40)] : List (S40))) (inner := [.int .i64 1, .int .i64 0, .int .i64 0, .int .i64 0, .int .i64 11, .int .i64 0, .int .i64 0, .int .i64 0]) (ok := fun _ => True) (okp := fun _ => True) ?hr ?hp (fun _ hk => hk) trivial (Below.refl _ _) (Nat.le_refl _) (by simp) ?_; (case hd => rfl); (case hg => rfl); (case hr => first | (go_simp; done) | (go_simp; rfl)); (case hp => exact (Reps.c4 (show Kd.M k40 _ _ _ (⟨1, 0, 0, 0⟩ : S40) [.int .i64 1, .int .i64 0, .int .i64 0, .int .i64 0] from (k40_mkM _ _ _ (⟨1, 0, 0, 0⟩ : S40) )) (Reps.c4 (show Kd.M k40 _ _ _ (⟨11, 0, 0, 0⟩ : S40) [.int .i64 11, .int .i64 0, .int .i64 0, .int .i64 0] from (k40_mkM _ _ _ (⟨11, 0, 0, 0⟩ : S40) )) (Reps.none _ _)))); intro v102 w11 ho12 hb hg_ hnew_; clear hg_ hnew_; (first | rw [← Ny101.out] at ho12 | (simp only [Int.reduceToNat] at ho12; rw [← Ny101.out] at ho12)); have n0_ := Aside0.mk (Kd.R_lower ho12 (below_size (by repeat (first | (with_reducible first | exact HB.out | apply below_alloc | apply pw_below_drewN | apply below_drew1) | exact HB.out)))); have n1_ := Aside0.mk (below_step (by repeat (first | (with_reducible first | exact HB.out | apply below_alloc | apply pw_below_drewN | apply below_drew1) | exact HB.out)) hb); clear HB; have HO103 := n0_; have HB := n1_; clear n0_ n1_; clear hb ho12) | ((with_reducible refine gate_dst (N := 8) rfl ?_); refine Kd.R_lit k42 _ 42 ?hg (N := 8) ?hd (xs := ([(⟨0, 1, 0⟩ : S42)] : List (S42))) (inner := [.int .i64 0, .int .i64 1, .int .i64 0]) (ok := fun _ => True) (okp := fun _ => True) ?hr ?hp (fun _ hk => hk) trivial (Below.refl _ _) (Nat.le_refl _) (by simp) ?_; (case hd => rfl); (case hg => rfl); (case hr => first | (go_simp; done) | (go_simp; rfl)); (case hp => exact (Reps.c3 (show Kd.M k42 _ _ _ (⟨0, 1, 0⟩ : S42) [.int .i64 0, .int .i64 1, .int .i64 0] from (k42_mkM _ _ _ (⟨0, 1, 0⟩ : S42) )) (Reps.none _ _))); intro v105 w13 ho14 hb hg_ hnew_; clear hg_ hnew_; (first | rw [← Ny104.out] at ho14 | (simp only [Int.reduceToNat] at ho14; rw [← Ny104.out] at ho14)); have n0_ := Aside0.mk (Kd.R_below (by (with_reducible repeat (first | apply Kd.R_alloc | apply Kd.R_drewN | apply Kd.R_drew)); exact HO103.out) hb); have n1_ := Aside0.mk (Kd.R_lower ho14 (below_size (by repeat (first | (with_reducible first | exact HB.out | apply below_alloc | apply pw_below_drewN | apply below_drew1) | exact HB.out)))); have n2_ := Aside0.mk (below_step (by repeat (first | (with_reducible first | exact HB.out | apply below_alloc | apply pw_below_drewN | apply below_drew1) | exact HB.out)) hb); clear HO103; clear HB; have HO103 := n0_; have HO106 := n1_; have HB := n2_; clear n0_ n1_ n2_; clear hb ho14; obtain ⟨Ao15, co15, eo15⟩ := Kd.R_slice HO106.out; subst eo15; obtain ⟨Ao16, co16, eo16⟩ := Kd.R_slice HO103.out; subst eo16) | ((with_reducible refine gate_callee (f := 14) rfl ?_); refine goesL_ (some 10) rfl rfl Tryd.func14 (by kernel_rfl) rfl #[.agg #[.slice Ao16 y101.length co16, .slice Ao15 y104.length co15]] rfl (by (try simp only [List.map_toArray, List.map_cons, List.map_nil]); first | done | rfl | (simp only [List.length_drop, List.length_take]; rfl)) ?_; (with_reducible refine (gcode_Put.calls _ _ y101 _ _ y104 t107 t110 _ ?side1 ?side2 ?side3 ?side4 A1.out).mono ?_); (case side1 => repeat (first | exact (Kd.R_reads' HO103.out).2.2 | (with_reducible refine Kd.C_alloc ?_ _) | (with_reducible refine Kd.C_drewN ?_ _) | (with_reducible refine Kd.C_drew ?_))); (case side2 => exact (Kd.R_reads' HO103.out).2.1); (case side3 => repeat (first | exact (Kd.R_reads' HO106.out).2.2 | (with_reducible refine Kd.C_alloc ?_ _) | (with_reducible refine Kd.C_drewN ?_ _) | (with_reducible refine Kd.C_drew ?_))); (case side4 => exact (Kd.R_reads' HO106.out).2.1); rintro e w17 ⟨v108, rfl, ho0, hb⟩; refine ⟨_, rfl, ?_⟩; have n0_ := Aside0.mk (Kd.R_below (by (with_reducible repeat (first | apply Kd.R_alloc | apply Kd.R_drewN | apply Kd.R_drew)); exact HO103.out) hb); have n1_ := Aside0.mk (Kd.R_below (by (with_reducible repeat (first | apply Kd.R_alloc | apply Kd.R_drewN | apply Kd.R_drew)); exact HO106.out) hb); have n2_ := Aside0.mk (Kd.R_lower ho0 (below_size (by repeat (first | (with_reducible first | exact HB.out | apply below_alloc | apply pw_below_drewN | apply below_drew1) | exact HB.out)))); have n3_ := Aside0.mk (below_step (by repeat (first | (with_reducible first | exact HB.out | apply below_alloc | apply pw_below_drewN | apply below_drew1) | exact HB.out)) hb); clear HO103; clear HO106; clear HB; have HO103 := n0_; have HO106 := n1_; have HO109 := n2_; have HB := n3_; clear n0_ n1_ n2_ n3_; (try clear hb); (try clear hb2); (try clear hk); (try clear hi); (try clear ho0); have hcv18 := own_string (P := Tryd.prog) Tryd.underlying22 Tryd.underlying5 Tryd.underlying9 (Kd.own_of_R HO109.out)))
  go_ret
  exact ⟨by first | rfl | (simp [errW_none, errW_some] <;> rfl) | (simp [*, errW_none, errW_some] <;> rfl), by repeat (first | (with_reducible first | exact HB.out | apply below_alloc | apply pw_below_drewN | apply below_drew1) | exact HB.out)⟩

/-! ### meanderlaw10_few: function 16 -/
def meanderlaw10_few.f (l0_0 : List (S40)) (l0_1 : List (S42)) : Option ((List (S40)) × (List (S42))) := if (l0_0.length : Int) > 260 then (if 260 ≤ (l0_0.length : Int) then ((some (l0_0.take 260 : List (S40))).bind fun y113 => (if (l0_1.length : Int) > 260 then (if 260 ≤ (l0_1.length : Int) then (some (y113, (l0_1.take 260))) else (none)) else (some (y113, l0_1)))) else (none)) else (if (l0_1.length : Int) > 260 then (if 260 ≤ (l0_1.length : Int) then (some (l0_0, (l0_1.take 260))) else (none)) else (some (l0_0, l0_1)))
set_option maxHeartbeats 8000000 in
set_option maxRecDepth 100000 in
theorem meanderlaw10_few.calls (P0_0_ : Nat → Prop) (A0_0 : Option Addr) (c0_0 : Nat) (l0_0 : List (S40)) (P0_1_ : Nat → Prop) (A0_1 : Option Addr) (c0_1 : Nat) (l0_1 : List (S42)) (r1 : List (S40)) (r2 : List (S42)) (w : World) (hs0_0 : Kd.V k40 40 w w.heap.size (fun k_ => P0_0_ k_) (.slice A0_0 l0_0.length c0_0) l0_0) (hs0_1 : Kd.V k42 42 w w.heap.size (fun k_ => P0_1_ k_) (.slice A0_1 l0_1.length c0_1) l0_1) (h : meanderlaw10_few.f l0_0 l0_1 = some (r1, r2)) :
  Calls Tryd.prog 16 #[.agg #[.slice A0_0 l0_0.length c0_0, .slice A0_1 l0_1.length c0_1]] w fun e w' => ∃ v0_ v1_ : Value, e = .returned (.agg #[v0_, v1_]) ∧ Kd.V k40 40 w' w.heap.size (fun k_ => ((P0_0_ k_ ∨ P0_1_ k_) ∨ w.heap.size ≤ k_)) v0_ r1 ∧ Kd.V k42 42 w' w.heap.size (fun k_ => ((P0_0_ k_ ∨ P0_1_ k_) ∨ w.heap.size ≤ k_)) v1_ r2 ∧ Below w.heap.size w w' := by
 have hu27 := Tryd.underlying27
 have HO0_0 := Aside0.mk (show Kd.V k40 40 w w.heap.size (fun k_ => ((P0_0_ k_ ∨ P0_1_ k_) ∨ w.heap.size ≤ k_)) (.slice A0_0 l0_0.length c0_0) l0_0 from Kd.V_mono hs0_0 (fun k_ hk => .inl (.inl hk)))
 have HO0_1 := Aside0.mk (show Kd.V k42 42 w w.heap.size (fun k_ => ((P0_0_ k_ ∨ P0_1_ k_) ∨ w.heap.size ≤ k_)) (.slice A0_1 l0_1.length c0_1) l0_1 from Kd.V_mono hs0_1 (fun k_ hk => .inl (.inr hk)))
 have HB := Aside0.mk (Below.refl w.heap.size w)
 have H : (if (l0_0.length : Int) > 260 then (if 260 ≤ (l0_0.length : Int) then ((some (l0_0.take 260 : List (S40))).bind fun y113 => (if (l0_1.length : Int) > 260 then (if 260 ≤ (l0_1.length : Int) then (some (y113, (l0_1.take 260))) else (none)) else (some (y113, l0_1)))) else (none)) else (if (l0_1.length : Int) > 260 then (if 260 ≤ (l0_1.length : Int) then (some (l0_0, (l0_1.take 260))) else (none)) else (some (l0_0, l0_1)))) = some (r1, r2) := h
 clear h
 by_cases c2 : (l0_0.length : Int) > 260
 ·rw [if_pos c2] at H
  have c2b0 : decide (260 < (l0_0.length : Int)) = true := decide_eq_true c2
  have c2b1 : decide (260 < l0_0.length) = true := decide_eq_true (by omega)
  clear c2
  by_cases c3 : 260 ≤ (l0_0.length : Int)
  ·rw [if_pos c3] at H
   have c3b0 := eq_true c3
   have c3b1 : decide (260 ≤ (l0_0.length : Int)) = true := decide_eq_true c3
   clear c3
   obtain ⟨y113, hy113⟩ : ∃ y_ : List (S40), y_ = (l0_0.take 260) := ⟨_, rfl⟩
   replace H : (if (l0_1.length : Int) > 260 then (if 260 ≤ (l0_1.length : Int) then (some (y113, (l0_1.take 260))) else (none)) else (some (y113, l0_1))) = some (r1, r2) := by first | (rw [hy113]; with_reducible exact H) | (have H2_ := (Option.bind_some _ _).symm.trans H; rw [hy113]; with_reducible exact H2_) | (have H2_ := (Option.bind_some _ _).symm.trans H; with_reducible exact H2_) | with_reducible exact H | (rw [hy113]; exact H) | exact H
   have Ny113 := Aside0.mk hy113
   clear hy113
   by_cases c4 : (l0_1.length : Int) > 260
   ·rw [if_pos c4] at H
    have c4b0 : decide (260 < (l0_1.length : Int)) = true := decide_eq_true c4
    have c4b1 : decide (260 < l0_1.length) = true := decide_eq_true (by omega)
    clear c4
    by_cases c5 : 260 ≤ (l0_1.length : Int)
    ·rw [if_pos c5] at H
     have c5b0 := eq_true c5
     have c5b1 : decide (260 ≤ (l0_1.length : Int)) = true := decide_eq_true c5
     clear c5
     obtain ⟨y118, hy118⟩ : ∃ y_ : List (S42), y_ = (l0_1.take 260) := ⟨_, rfl⟩
     replace H : (some (y113, y118)) = some (r1, r2) := by first | (rw [hy118]; with_reducible exact H) | (have H2_ := (Option.bind_some _ _).symm.trans H; rw [hy118]; with_reducible exact H2_) | (have H2_ := (Option.bind_some _ _).symm.trans H; with_reducible exact H2_) | with_reducible exact H | (rw [hy118]; exact H) | exact H
     have Ny118 := Aside0.mk hy118
     clear hy118
     simp only [Option.some.injEq, Prod.mk.injEq] at H
     obtain ⟨rfl, rfl⟩ := H
     go_enter Tryd.func16, Tryd.ntmps16
     go_wp2_with (first | ((with_reducible refine gate_dst (N := 1) rfl ?_); refine box_event ?hg (N := 1) ?hd (cs := #[.slice A0_0 l0_0.length c0_0, .slice A0_1 l0_1.length c0_1]) (t := 27) ?hr ?_; (case hd => rfl); (case hg => rfl); (case hr => first | (go_simp; done) | (go_simp; rfl)); intro gb111 hg w6 hbox hb; have n0_ := Aside0.mk (Kd.V_below (Kd.V_elderB (by (with_reducible repeat (first | apply Kd.V_alloc | apply Kd.V_drewN | apply Kd.V_drew)); exact HO0_0.out) gb111 (Nat.le_of_eq hg.symm)) hb); have n1_ := Aside0.mk (Kd.V_below (Kd.V_elderB (by (with_reducible repeat (first | apply Kd.V_alloc | apply Kd.V_drewN | apply Kd.V_drew)); exact HO0_1.out) gb111 (Nat.le_of_eq hg.symm)) hb); have n2_ := Aside0.mk (below_step (by repeat (first | (with_reducible first | exact HB.out | apply below_alloc | apply pw_below_drewN | apply below_drew1) | exact HB.out)) hb); have n3_ := Aside0.mk (hbox); have n4_ := Aside0.mk ((by rw [hg]; exact (below_size (by repeat (first | (with_reducible first | exact HB.out | apply below_alloc | apply pw_below_drewN | apply below_drew1) | exact HB.out))) : w.heap.size ≤ gb111)); have n5_ := Aside0.mk ((by rw [hg]; exact (below_size (by repeat (first | (with_reducible first | exact HB.out | apply below_alloc | apply pw_below_drewN | apply below_drew1) | exact HB.out))) : w.heap.size ≤ gb111)); clear HO0_0; clear HO0_1; clear HB; have HO0_0 := n0_; have HO0_1 := n1_; have HB := n2_; have BK111 := n3_; have GW111 := n4_; have GE111 := n5_; clear n0_ n1_ n2_ n3_ n4_ n5_; clear hb hbox hg) | ((with_reducible refine gate_dst (N := 2) rfl ?_); refine box_event ?hg (N := 2) ?hd (cs := #[.slice none 0 0, .slice none 0 0]) (t := 27) ?hr ?_; (case hd => rfl); (case hg => rfl); (case hr => first | (go_simp; done) | (go_simp; rfl)); intro gb112 hg w7 hbox hb; have n0_ := Aside0.mk (Kd.V_below (Kd.V_elderB (by (with_reducible repeat (first | apply Kd.V_alloc | apply Kd.V_drewN | apply Kd.V_drew)); exact HO0_0.out) gb112 (Nat.le_of_eq hg.symm)) hb); have n1_ := Aside0.mk (Kd.V_below (Kd.V_elderB (by (with_reducible repeat (first | apply Kd.V_alloc | apply Kd.V_drewN | apply Kd.V_drew)); exact HO0_1.out) gb112 (Nat.le_of_eq hg.symm)) hb); have n2_ := Aside0.mk (blk_below (g := gb111) (o := .cells #[.slice A0_0 l0_0.length c0_0, .slice A0_1 l0_1.length c0_1] 27 (0, 0)) (by (with_reducible repeat (first | refine blk_drewN ?_ _ | refine blk_drew ?_ | refine blk_alloc ?_ _)); exact BK111.out) hb); have n3_ := Aside0.mk (below_step (by repeat (first | (with_reducible first | exact HB.out | apply below_alloc | apply pw_below_drewN | apply below_drew1 | refine below_set ?_ GE111.out) | exact HB.out)) hb); have n4_ := Aside0.mk (hbox); have n5_ := Aside0.mk ((by rw [hg]; exact (below_size (by repeat (first | (with_reducible first | exact HB.out | apply below_alloc | apply pw_below_drewN | apply below_drew1 | refine below_set ?_ GE111.out) | exact HB.out))) : w.heap.size ≤ gb112)); have n6_ := Aside0.mk ((by rw [hg]; exact (below_size (by repeat (first | (with_reducible first | exact HB.out | apply below_alloc | apply pw_below_drewN | apply below_drew1 | refine below_set ?_ GE111.out) | exact HB.out))) : w.heap.size ≤ gb112)); have n7_ := Aside0.mk ((by rw [hg]; exact Nat.ne_of_lt (blk_lt (g := gb111) (o := .cells #[.slice A0_0 l0_0.length c0_0, .slice A0_1 l0_1.length c0_1] 27 (0, 0)) (by (with_reducible repeat (first | refine blk_drewN ?_ _ | refine blk_drew ?_ | refine blk_alloc ?_ _)); exact BK111.out)) : gb111 ≠ gb112)); have n8_ := Aside0.mk ((by rw [hg]; exact Nat.ne_of_gt (blk_lt (g := gb111) (o := .cells #[.slice A0_0 l0_0.length c0_0, .slice A0_1 l0_1.length c0_1] 27 (0, 0)) (by (with_reducible repeat (first | refine blk_drewN ?_ _ | refine blk_drew ?_ | refine blk_alloc ?_ _)); exact BK111.out)) : gb112 ≠ gb111)); clear HO0_0; clear HO0_1; clear BK111; clear HB; have HO0_0 := n0_; have HO0_1 := n1_; have BK111 := n2_; have HB := n3_; have BK112 := n4_; have GW112 := n5_; have GE112 := n6_; have NB111_112 := n7_; have NB112_111 := n8_; clear n0_ n1_ n2_ n3_ n4_ n5_ n6_ n7_ n8_; clear hb hbox hg; have hnb8 := NB111_112.out; have hnc8 := NB112_111.out; have hcz9_0 : w7.cell? ⟨gb111, 0, none⟩ = some (.slice A0_0 l0_0.length c0_0) := (blk_cell BK111.out 0).trans rfl; have hcz9_1 : w7.cell? ⟨gb111, 1, none⟩ = some (.slice A0_1 l0_1.length c0_1) := (blk_cell BK111.out 1).trans rfl; have hfz9_0 := blk_frozen BK111.out 0; have hfz9_1 := blk_frozen BK111.out 1; have q10 : (260 : Int) ≤ ((l0_0.length : Int) : Int) := of_decide_eq_true (by first | (with_reducible assumption) | assumption); obtain ⟨i010, hi010, _, hsz10, _⟩ := info_parts info40; have hroom10 : l0_0.length ≤ c0_0 := (Kd.V_reads' HO0_0.out).2.1; have hC10 : Kd.F k40 _ _ A0_0 l0_0.length l0_0 := (Kd.V_at (base := w.heap.size) HO0_0.out).2.2; have hcut10 := cut_to (P := Tryd.prog) 24 40 .i64 Tryd.underlying24 hi010 A0_0 l0_0.length c0_0 260 (by omega) q10 hroom10; have hr10 := Kd.F_take (m := 260) hC10 (by omega); have hy10 : y113.length = (260 : Int).toNat := (by rw [Ny113.out, List.length_take]; omega); rw [← Ny113.out] at hr10; rw [← hy10] at hcut10; have HO117 := Aside0.mk (show Kd.V k40 40 _ w.heap.size _ (.slice A0_0 y113.length c0_0) y113 from Kd.V_mk (by omega) hr10); have HC117 := Aside0.mk (show y113.length ≤ c0_0 from by omega); clear hr10 hC10 hroom10 hi010 hsz10; have KY10 := Aside0.mk hy10; clear hy10; replace q10 := eq_true q10) | ((with_reducible refine gate_store (t := 24) (p := 10) rfl ?_); refine store_event (t := 24) (p := 10) (v := ?vo_w11) (w1 := (w7.setCell ⟨gb111, 0, none⟩ (.slice A0_0 y113.length c0_0))) ?hg ?ho ?hn ?hr ?_; (case ho => rfl); (case hg => rfl); (case hn => rfl); (case hr => first | (go_simp; done) | (go_simp; rfl)); intro w11 hw; have n0_ : Aside0 (Kd.V k40 40 w11 w.heap.size (fun k_ => ((P0_0_ k_ ∨ P0_1_ k_) ∨ w.heap.size ≤ k_) ∧ k_ ≠ gb111 ∧ k_ ≠ gb112) (.slice A0_0 l0_0.length c0_0) l0_0) := ⟨(by rw [hw]; exact (by (with_reducible repeat (first | apply Kd.V_alloc | apply Kd.V_drewN | apply Kd.V_drew)); exact Kd.V_mono (Kd.V_far (p := ⟨gb111, 0, none⟩) (Kd.V_mono HO0_0.out (fun k_ hk => (⟨hk, hk.1.2⟩ : _ ∧ k_ ≠ gb111))) (fun _ hk => hk.2) (.slice A0_0 y113.length c0_0)) (fun _ hk => ⟨hk.1.1.1, ⟨hk.1.1.2, hk.1.2⟩⟩)))⟩; have n1_ : Aside0 (Kd.V k42 42 w11 w.heap.size (fun k_ => ((P0_0_ k_ ∨ P0_1_ k_) ∨ w.heap.size ≤ k_) ∧ k_ ≠ gb111 ∧ k_ ≠ gb112) (.slice A0_1 l0_1.length c0_1) l0_1) := ⟨(by rw [hw]; exact (by (with_reducible repeat (first | apply Kd.V_alloc | apply Kd.V_drewN | apply Kd.V_drew)); exact Kd.V_mono (Kd.V_far (p := ⟨gb111, 0, none⟩) (Kd.V_mono HO0_1.out (fun k_ hk => (⟨hk, hk.1.2⟩ : _ ∧ k_ ≠ gb111))) (fun _ hk => hk.2) (.slice A0_0 y113.length c0_0)) (fun _ hk => ⟨hk.1.1.1, ⟨hk.1.1.2, hk.1.2⟩⟩)))⟩; have n2_ : Aside0 (Kd.V k40 40 w11 w.heap.size (fun k_ => ((P0_0_ k_ ∨ P0_1_ k_) ∨ w.heap.size ≤ k_) ∧ k_ ≠ gb111 ∧ k_ ≠ gb112) (.slice A0_0 y113.length c0_0) y113) := ⟨(by rw [hw]; exact (by (with_reducible repeat (first | apply Kd.V_alloc | apply Kd.V_drewN | apply Kd.V_drew)); exact Kd.V_mono (Kd.V_far (p := ⟨gb111, 0, none⟩) (Kd.V_mono HO117.out (fun k_ hk => (⟨hk, hk.1.2⟩ : _ ∧ k_ ≠ gb111))) (fun _ hk => hk.2) (.slice A0_0 y113.length c0_0)) (fun _ hk => ⟨hk.1.1.1, ⟨hk.1.1.2, hk.1.2⟩⟩)))⟩; have n3_ : Aside0 (w11.heap[gb111]? = some (.cells #[.slice A0_0 y113.length c0_0, .slice A0_1 l0_1.length c0_1] 27 (0, 0))) := ⟨(by rw [hw]; exact (by (with_reducible repeat (first | refine blk_drewN ?_ _ | refine blk_drew ?_ | refine blk_alloc ?_ _)); refine blk_put (cs := #[.slice A0_0 l0_0.length c0_0, .slice A0_1 l0_1.length c0_1]) ?_ 0 _ rfl; (with_reducible repeat (first | refine blk_drewN ?_ _ | refine blk_drew ?_ | refine blk_alloc ?_ _)); exact BK111.out))⟩; have n4_ : Aside0 (w11.heap[gb112]? = some (.cells #[.slice none 0 0, .slice none 0 0] 27 (0, 0))) := ⟨(by rw [hw]; exact (by (with_reducible repeat (first | refine blk_drewN ?_ _ | refine blk_drew ?_ | refine blk_alloc ?_ _)); refine blk_far ?_ NB112_111.out _; (with_reducible repeat (first | refine blk_drewN ?_ _ | refine blk_drew ?_ | refine blk_alloc ?_ _)); exact BK112.out))⟩; have n5_ : Aside0 (Below w.heap.size w w11) := ⟨(by rw [hw]; exact (by repeat (first | (with_reducible first | exact HB.out | apply below_alloc | apply pw_below_drewN | apply below_drew1 | refine below_set ?_ GE111.out | refine below_set ?_ GE112.out) | exact HB.out)))⟩; clear hw; clear HO0_0; clear HO0_1; clear HO117; clear BK111; clear BK112; clear HB; have HO0_0 := n0_; have HO0_1 := n1_; have HO117 := n2_; have BK111 := n3_; have BK112 := n4_; have HB := n5_; clear n0_ n1_ n2_ n3_ n4_ n5_; have hcz12_0 : w11.cell? ⟨gb111, 0, none⟩ = some (.slice A0_0 y113.length c0_0) := (blk_cell BK111.out 0).trans rfl; have hcz12_1 : w11.cell? ⟨gb111, 1, none⟩ = some (.slice A0_1 l0_1.length c0_1) := (blk_cell BK111.out 1).trans rfl; have hfz12_0 := blk_frozen BK111.out 0; have hfz12_1 := blk_frozen BK111.out 1; have q13 : (260 : Int) ≤ ((l0_1.length : Int) : Int) := of_decide_eq_true (by first | (with_reducible assumption) | assumption); obtain ⟨i013, hi013, _, hsz13, _⟩ := info_parts info42; have hroom13 : l0_1.length ≤ c0_1 := (Kd.V_reads' HO0_1.out).2.1; have hC13 : Kd.F k42 _ _ A0_1 l0_1.length l0_1 := (Kd.V_at (base := w.heap.size) HO0_1.out).2.2; have hcut13 := cut_to (P := Tryd.prog) 25 42 .i64 Tryd.underlying25 hi013 A0_1 l0_1.length c0_1 260 (by omega) q13 hroom13; have hr13 := Kd.F_take (m := 260) hC13 (by omega); have hy13 : y118.length = (260 : Int).toNat := (by rw [Ny118.out, List.length_take]; omega); rw [← Ny118.out] at hr13; rw [← hy13] at hcut13; have HO122 := Aside0.mk (show Kd.V k42 42 _ w.heap.size _ (.slice A0_1 y118.length c0_1) y118 from Kd.V_mk (by omega) hr13); have HC122 := Aside0.mk (show y118.length ≤ c0_1 from by omega); clear hr13 hC13 hroom13 hi013 hsz13; have KY13 := Aside0.mk hy13; clear hy13; replace q13 := eq_true q13; have hcz14_0 : w11.cell? ⟨gb112, 0, none⟩ = some (.slice none 0 0) := (blk_cell BK112.out 0).trans rfl; have hcz14_1 : w11.cell? ⟨gb112, 1, none⟩ = some (.slice none 0 0) := (blk_cell BK112.out 1).trans rfl; have hfz14_0 := blk_frozen BK112.out 0; have hfz14_1 := blk_frozen BK112.out 1))
     refine bodyPost_ret (results_cell_row rfl _ _ gb112 27 #[.slice A0_0 y113.length c0_0, .slice A0_1 y118.length c0_1] (0, 0) _ rfl (by (with_reducible repeat (first | refine blk_drewN ?_ _ | refine blk_drew ?_ | refine blk_alloc ?_ _)); refine blk_put (cs := #[.slice A0_0 y113.length c0_0, .slice none 0 0]) ?_ 1 _ rfl; (with_reducible repeat (first | refine blk_drewN ?_ _ | refine blk_drew ?_ | refine blk_alloc ?_ _)); refine blk_put (cs := #[.slice none 0 0, .slice none 0 0]) ?_ 0 _ rfl; (with_reducible repeat (first | refine blk_drewN ?_ _ | refine blk_drew ?_ | refine blk_alloc ?_ _)); refine blk_far ?_ NB112_111.out _; (with_reducible repeat (first | refine blk_drewN ?_ _ | refine blk_drew ?_ | refine blk_alloc ?_ _)); exact BK112.out) Tryd.underlying27 rfl (by kernel_rfl)) rfl ?_
     exact ⟨_, _, by first | rfl | (simp [errW_none, errW_some] <;> rfl) | (simp [*, errW_none, errW_some] <;> rfl), by (with_reducible repeat (first | apply Kd.V_alloc | apply Kd.V_drewN | apply Kd.V_drew)); exact Kd.V_mono (Kd.V_far (p := ⟨gb112, 1, none⟩) (Kd.V_far (p := ⟨gb112, 0, none⟩) (Kd.V_far (p := ⟨gb111, 1, none⟩) (Kd.V_mono (Kd.V_mono HO117.out (fun k_ hk => (⟨hk, hk.2.1⟩ : _ ∧ k_ ≠ gb111))) (fun k_ hk => (⟨hk, hk.1.2.2⟩ : _ ∧ k_ ≠ gb112))) (fun _ hk => hk.1.2) (.slice A0_1 y118.length c0_1)) (fun _ hk => hk.2) (.slice A0_0 y113.length c0_0)) (fun _ hk => hk.2) (.slice A0_1 y118.length c0_1)) (fun _ hk => hk.1.1.1), by (with_reducible repeat (first | apply Kd.V_alloc | apply Kd.V_drewN | apply Kd.V_drew)); exact Kd.V_mono (Kd.V_far (p := ⟨gb112, 1, none⟩) (Kd.V_far (p := ⟨gb112, 0, none⟩) (Kd.V_far (p := ⟨gb111, 1, none⟩) (Kd.V_mono (Kd.V_mono HO122.out (fun k_ hk => (⟨hk, hk.2.1⟩ : _ ∧ k_ ≠ gb111))) (fun k_ hk => (⟨hk, hk.1.2.2⟩ : _ ∧ k_ ≠ gb112))) (fun _ hk => hk.1.2) (.slice A0_1 y118.length c0_1)) (fun _ hk => hk.2) (.slice A0_0 y113.length c0_0)) (fun _ hk => hk.2) (.slice A0_1 y118.length c0_1)) (fun _ hk => hk.1.1.1), by repeat (first | (with_reducible first | exact HB.out | apply below_alloc | apply pw_below_drewN | apply below_drew1 | refine below_set ?_ GE111.out | refine below_set ?_ GE112.out) | exact HB.out)⟩
    ·rw [if_neg c5] at H
     exact absurd H (by simp)
   ·rw [if_neg c4] at H
    have c4b0 : decide (260 < (l0_1.length : Int)) = false := decide_eq_false c4
    have c4b1 : decide (260 < l0_1.length) = false := decide_eq_false (by omega)
    clear c4
    simp only [Option.some.injEq, Prod.mk.injEq] at H
    obtain ⟨rfl, rfl⟩ := H
    go_enter Tryd.func16, Tryd.ntmps16
    go_wp2_with (first | ((with_reducible refine gate_dst (N := 1) rfl ?_); refine box_event ?hg (N := 1) ?hd (cs := #[.slice A0_0 l0_0.length c0_0, .slice A0_1 l0_1.length c0_1]) (t := 27) ?hr ?_; (case hd => rfl); (case hg => rfl); (case hr => first | (go_simp; done) | (go_simp; rfl)); intro gb111 hg w15 hbox hb; have n0_ := Aside0.mk (Kd.V_below (Kd.V_elderB (by (with_reducible repeat (first | apply Kd.V_alloc | apply Kd.V_drewN | apply Kd.V_drew)); exact HO0_0.out) gb111 (Nat.le_of_eq hg.symm)) hb); have n1_ := Aside0.mk (Kd.V_below (Kd.V_elderB (by (with_reducible repeat (first | apply Kd.V_alloc | apply Kd.V_drewN | apply Kd.V_drew)); exact HO0_1.out) gb111 (Nat.le_of_eq hg.symm)) hb); have n2_ := Aside0.mk (below_step (by repeat (first | (with_reducible first | exact HB.out | apply below_alloc | apply pw_below_drewN | apply below_drew1) | exact HB.out)) hb); have n3_ := Aside0.mk (hbox); have n4_ := Aside0.mk ((by rw [hg]; exact (below_size (by repeat (first | (with_reducible first | exact HB.out | apply below_alloc | apply pw_below_drewN | apply below_drew1) | exact HB.out))) : w.heap.size ≤ gb111)); have n5_ := Aside0.mk ((by rw [hg]; exact (below_size (by repeat (first | (with_reducible first | exact HB.out | apply below_alloc | apply pw_below_drewN | apply below_drew1) | exact HB.out))) : w.heap.size ≤ gb111)); clear HO0_0; clear HO0_1; clear HB; have HO0_0 := n0_; have HO0_1 := n1_; have HB := n2_; have BK111 := n3_; have GW111 := n4_; have GE111 := n5_; clear n0_ n1_ n2_ n3_ n4_ n5_; clear hb hbox hg) | ((with_reducible refine gate_dst (N := 2) rfl ?_); refine box_event ?hg (N := 2) ?hd (cs := #[.slice none 0 0, .slice none 0 0]) (t := 27) ?hr ?_; (case hd => rfl); (case hg => rfl); (case hr => first | (go_simp; done) | (go_simp; rfl)); intro gb112 hg w16 hbox hb; have n0_ := Aside0.mk (Kd.V_below (Kd.V_elderB (by (with_reducible repeat (first | apply Kd.V_alloc | apply Kd.V_drewN | apply Kd.V_drew)); exact HO0_0.out) gb112 (Nat.le_of_eq hg.symm)) hb); have n1_ := Aside0.mk (Kd.V_below (Kd.V_elderB (by (with_reducible repeat (first | apply Kd.V_alloc | apply Kd.V_drewN | apply Kd.V_drew)); exact HO0_1.out) gb112 (Nat.le_of_eq hg.symm)) hb); have n2_ := Aside0.mk (blk_below (g := gb111) (o := .cells #[.slice A0_0 l0_0.length c0_0, .slice A0_1 l0_1.length c0_1] 27 (0, 0)) (by (with_reducible repeat (first | refine blk_drewN ?_ _ | refine blk_drew ?_ | refine blk_alloc ?_ _)); exact BK111.out) hb); have n3_ := Aside0.mk (below_step (by repeat (first | (with_reducible first | exact HB.out | apply below_alloc | apply pw_below_drewN | apply below_drew1 | refine below_set ?_ GE111.out) | exact HB.out)) hb); have n4_ := Aside0.mk (hbox); have n5_ := Aside0.mk ((by rw [hg]; exact (below_size (by repeat (first | (with_reducible first | exact HB.out | apply below_alloc | apply pw_below_drewN | apply below_drew1 | refine below_set ?_ GE111.out) | exact HB.out))) : w.heap.size ≤ gb112)); have n6_ := Aside0.mk ((by rw [hg]; exact (below_size (by repeat (first | (with_reducible first | exact HB.out | apply below_alloc | apply pw_below_drewN | apply below_drew1 | refine below_set ?_ GE111.out) | exact HB.out))) : w.heap.size ≤ gb112)); have n7_ := Aside0.mk ((by rw [hg]; exact Nat.ne_of_lt (blk_lt (g := gb111) (o := .cells #[.slice A0_0 l0_0.length c0_0, .slice A0_1 l0_1.length c0_1] 27 (0, 0)) (by (with_reducible repeat (first | refine blk_drewN ?_ _ | refine blk_drew ?_ | refine blk_alloc ?_ _)); exact BK111.out)) : gb111 ≠ gb112)); have n8_ := Aside0.mk ((by rw [hg]; exact Nat.ne_of_gt (blk_lt (g := gb111) (o := .cells #[.slice A0_0 l0_0.length c0_0, .slice A0_1 l0_1.length c0_1] 27 (0, 0)) (by (with_reducible repeat (first | refine blk_drewN ?_ _ | refine blk_drew ?_ | refine blk_alloc ?_ _)); exact BK111.out)) : gb112 ≠ gb111)); clear HO0_0; clear HO0_1; clear BK111; clear HB; have HO0_0 := n0_; have HO0_1 := n1_; have BK111 := n2_; have HB := n3_; have BK112 := n4_; have GW112 := n5_; have GE112 := n6_; have NB111_112 := n7_; have NB112_111 := n8_; clear n0_ n1_ n2_ n3_ n4_ n5_ n6_ n7_ n8_; clear hb hbox hg; have hnb17 := NB111_112.out; have hnc17 := NB112_111.out; have hcz18_0 : w16.cell? ⟨gb111, 0, none⟩ = some (.slice A0_0 l0_0.length c0_0) := (blk_cell BK111.out 0).trans rfl; have hcz18_1 : w16.cell? ⟨gb111, 1, none⟩ = some (.slice A0_1 l0_1.length c0_1) := (blk_cell BK111.out 1).trans rfl; have hfz18_0 := blk_frozen BK111.out 0; have hfz18_1 := blk_frozen BK111.out 1; have q19 : (260 : Int) ≤ ((l0_0.length : Int) : Int) := of_decide_eq_true (by first | (with_reducible assumption) | assumption); obtain ⟨i019, hi019, _, hsz19, _⟩ := info_parts info40; have hroom19 : l0_0.length ≤ c0_0 := (Kd.V_reads' HO0_0.out).2.1; have hC19 : Kd.F k40 _ _ A0_0 l0_0.length l0_0 := (Kd.V_at (base := w.heap.size) HO0_0.out).2.2; have hcut19 := cut_to (P := Tryd.prog) 24 40 .i64 Tryd.underlying24 hi019 A0_0 l0_0.length c0_0 260 (by omega) q19 hroom19; have hr19 := Kd.F_take (m := 260) hC19 (by omega); have hy19 : y113.length = (260 : Int).toNat := (by rw [Ny113.out, List.length_take]; omega); rw [← Ny113.out] at hr19; rw [← hy19] at hcut19; have HO117 := Aside0.mk (show Kd.V k40 40 _ w.heap.size _ (.slice A0_0 y113.length c0_0) y113 from Kd.V_mk (by omega) hr19); have HC117 := Aside0.mk (show y113.length ≤ c0_0 from by omega); clear hr19 hC19 hroom19 hi019 hsz19; have KY19 := Aside0.mk hy19; clear hy19; replace q19 := eq_true q19; have hcz20_0 : w16.cell? ⟨gb112, 0, none⟩ = some (.slice none 0 0) := (blk_cell BK112.out 0).trans rfl; have hcz20_1 : w16.cell? ⟨gb112, 1, none⟩ = some (.slice none 0 0) := (blk_cell BK112.out 1).trans rfl; have hfz20_0 := blk_frozen BK112.out 0; have hfz20_1 := blk_frozen BK112.out 1))
    refine bodyPost_ret (results_cell_row rfl _ _ gb112 27 #[.slice A0_0 y113.length c0_0, .slice A0_1 l0_1.length c0_1] (0, 0) _ rfl (by (with_reducible repeat (first | refine blk_drewN ?_ _ | refine blk_drew ?_ | refine blk_alloc ?_ _)); refine blk_put (cs := #[.slice A0_0 y113.length c0_0, .slice none 0 0]) ?_ 1 _ rfl; (with_reducible repeat (first | refine blk_drewN ?_ _ | refine blk_drew ?_ | refine blk_alloc ?_ _)); refine blk_put (cs := #[.slice none 0 0, .slice none 0 0]) ?_ 0 _ rfl; (with_reducible repeat (first | refine blk_drewN ?_ _ | refine blk_drew ?_ | refine blk_alloc ?_ _)); refine blk_far ?_ NB112_111.out _; (with_reducible repeat (first | refine blk_drewN ?_ _ | refine blk_drew ?_ | refine blk_alloc ?_ _)); exact BK112.out) Tryd.underlying27 rfl (by kernel_rfl)) rfl ?_
    exact ⟨_, _, by first | rfl | (simp [errW_none, errW_some] <;> rfl) | (simp [*, errW_none, errW_some] <;> rfl), by (with_reducible repeat (first | apply Kd.V_alloc | apply Kd.V_drewN | apply Kd.V_drew)); exact Kd.V_mono (Kd.V_far (p := ⟨gb112, 1, none⟩) (Kd.V_far (p := ⟨gb112, 0, none⟩) (Kd.V_far (p := ⟨gb111, 0, none⟩) (Kd.V_mono (Kd.V_mono HO117.out (fun k_ hk => (⟨hk, hk.1.2⟩ : _ ∧ k_ ≠ gb111))) (fun k_ hk => (⟨hk, hk.1.2⟩ : _ ∧ k_ ≠ gb112))) (fun _ hk => hk.1.2) (.slice A0_0 y113.length c0_0)) (fun _ hk => hk.2) (.slice A0_0 y113.length c0_0)) (fun _ hk => hk.2) (.slice A0_1 l0_1.length c0_1)) (fun _ hk => hk.1.1.1.1), by (with_reducible repeat (first | apply Kd.V_alloc | apply Kd.V_drewN | apply Kd.V_drew)); exact Kd.V_mono (Kd.V_far (p := ⟨gb112, 1, none⟩) (Kd.V_far (p := ⟨gb112, 0, none⟩) (Kd.V_far (p := ⟨gb111, 0, none⟩) (Kd.V_mono (Kd.V_mono HO0_1.out (fun k_ hk => (⟨hk, hk.1.2⟩ : _ ∧ k_ ≠ gb111))) (fun k_ hk => (⟨hk, hk.1.2⟩ : _ ∧ k_ ≠ gb112))) (fun _ hk => hk.1.2) (.slice A0_0 y113.length c0_0)) (fun _ hk => hk.2) (.slice A0_0 y113.length c0_0)) (fun _ hk => hk.2) (.slice A0_1 l0_1.length c0_1)) (fun _ hk => hk.1.1.1.1), by repeat (first | (with_reducible first | exact HB.out | apply below_alloc | apply pw_below_drewN | apply below_drew1 | refine below_set ?_ GE111.out | refine below_set ?_ GE112.out) | exact HB.out)⟩
  ·rw [if_neg c3] at H
   exact absurd H (by simp)
 ·rw [if_neg c2] at H
  have c2b0 : decide (260 < (l0_0.length : Int)) = false := decide_eq_false c2
  have c2b1 : decide (260 < l0_0.length) = false := decide_eq_false (by omega)
  clear c2
  by_cases c21 : (l0_1.length : Int) > 260
  ·rw [if_pos c21] at H
   have c21b0 : decide (260 < (l0_1.length : Int)) = true := decide_eq_true c21
   have c21b1 : decide (260 < l0_1.length) = true := decide_eq_true (by omega)
   clear c21
   by_cases c22 : 260 ≤ (l0_1.length : Int)
   ·rw [if_pos c22] at H
    have c22b0 := eq_true c22
    have c22b1 : decide (260 ≤ (l0_1.length : Int)) = true := decide_eq_true c22
    clear c22
    obtain ⟨y123, hy123⟩ : ∃ y_ : List (S42), y_ = (l0_1.take 260) := ⟨_, rfl⟩
    replace H : (some (l0_0, y123)) = some (r1, r2) := by first | (rw [hy123]; with_reducible exact H) | (have H2_ := (Option.bind_some _ _).symm.trans H; rw [hy123]; with_reducible exact H2_) | (have H2_ := (Option.bind_some _ _).symm.trans H; with_reducible exact H2_) | with_reducible exact H | (rw [hy123]; exact H) | exact H
    have Ny123 := Aside0.mk hy123
    clear hy123
    simp only [Option.some.injEq, Prod.mk.injEq] at H
    obtain ⟨rfl, rfl⟩ := H
    go_enter Tryd.func16, Tryd.ntmps16
    go_wp2_with (first | ((with_reducible refine gate_dst (N := 1) rfl ?_); refine box_event ?hg (N := 1) ?hd (cs := #[.slice A0_0 l0_0.length c0_0, .slice A0_1 l0_1.length c0_1]) (t := 27) ?hr ?_; (case hd => rfl); (case hg => rfl); (case hr => first | (go_simp; done) | (go_simp; rfl)); intro gb111 hg w23 hbox hb; have n0_ := Aside0.mk (Kd.V_below (Kd.V_elderB (by (with_reducible repeat (first | apply Kd.V_alloc | apply Kd.V_drewN | apply Kd.V_drew)); exact HO0_0.out) gb111 (Nat.le_of_eq hg.symm)) hb); have n1_ := Aside0.mk (Kd.V_below (Kd.V_elderB (by (with_reducible repeat (first | apply Kd.V_alloc | apply Kd.V_drewN | apply Kd.V_drew)); exact HO0_1.out) gb111 (Nat.le_of_eq hg.symm)) hb); have n2_ := Aside0.mk (below_step (by repeat (first | (with_reducible first | exact HB.out | apply below_alloc | apply pw_below_drewN | apply below_drew1) | exact HB.out)) hb); have n3_ := Aside0.mk (hbox); have n4_ := Aside0.mk ((by rw [hg]; exact (below_size (by repeat (first | (with_reducible first | exact HB.out | apply below_alloc | apply pw_below_drewN | apply below_drew1) | exact HB.out))) : w.heap.size ≤ gb111)); have n5_ := Aside0.mk ((by rw [hg]; exact (below_size (by repeat (first | (with_reducible first | exact HB.out | apply below_alloc | apply pw_below_drewN | apply below_drew1) | exact HB.out))) : w.heap.size ≤ gb111)); clear HO0_0; clear HO0_1; clear HB; have HO0_0 := n0_; have HO0_1 := n1_; have HB := n2_; have BK111 := n3_; have GW111 := n4_; have GE111 := n5_; clear n0_ n1_ n2_ n3_ n4_ n5_; clear hb hbox hg) | ((with_reducible refine gate_dst (N := 2) rfl ?_); refine box_event ?hg (N := 2) ?hd (cs := #[.slice none 0 0, .slice none 0 0]) (t := 27) ?hr ?_; (case hd => rfl); (case hg => rfl); (case hr => first | (go_simp; done) | (go_simp; rfl)); intro gb112 hg w24 hbox hb; have n0_ := Aside0.mk (Kd.V_below (Kd.V_elderB (by (with_reducible repeat (first | apply Kd.V_alloc | apply Kd.V_drewN | apply Kd.V_drew)); exact HO0_0.out) gb112 (Nat.le_of_eq hg.symm)) hb); have n1_ := Aside0.mk (Kd.V_below (Kd.V_elderB (by (with_reducible repeat (first | apply Kd.V_alloc | apply Kd.V_drewN | apply Kd.V_drew)); exact HO0_1.out) gb112 (Nat.le_of_eq hg.symm)) hb); have n2_ := Aside0.mk (blk_below (g := gb111) (o := .cells #[.slice A0_0 l0_0.length c0_0, .slice A0_1 l0_1.length c0_1] 27 (0, 0)) (by (with_reducible repeat (first | refine blk_drewN ?_ _ | refine blk_drew ?_ | refine blk_alloc ?_ _)); exact BK111.out) hb); have n3_ := Aside0.mk (below_step (by repeat (first | (with_reducible first | exact HB.out | apply below_alloc | apply pw_below_drewN | apply below_drew1 | refine below_set ?_ GE111.out) | exact HB.out)) hb); have n4_ := Aside0.mk (hbox); have n5_ := Aside0.mk ((by rw [hg]; exact (below_size (by repeat (first | (with_reducible first | exact HB.out | apply below_alloc | apply pw_below_drewN | apply below_drew1 | refine below_set ?_ GE111.out) | exact HB.out))) : w.heap.size ≤ gb112)); have n6_ := Aside0.mk ((by rw [hg]; exact (below_size (by repeat (first | (with_reducible first | exact HB.out | apply below_alloc | apply pw_below_drewN | apply below_drew1 | refine below_set ?_ GE111.out) | exact HB.out))) : w.heap.size ≤ gb112)); have n7_ := Aside0.mk ((by rw [hg]; exact Nat.ne_of_lt (blk_lt (g := gb111) (o := .cells #[.slice A0_0 l0_0.length c0_0, .slice A0_1 l0_1.length c0_1] 27 (0, 0)) (by (with_reducible repeat (first | refine blk_drewN ?_ _ | refine blk_drew ?_ | refine blk_alloc ?_ _)); exact BK111.out)) : gb111 ≠ gb112)); have n8_ := Aside0.mk ((by rw [hg]; exact Nat.ne_of_gt (blk_lt (g := gb111) (o := .cells #[.slice A0_0 l0_0.length c0_0, .slice A0_1 l0_1.length c0_1] 27 (0, 0)) (by (with_reducible repeat (first | refine blk_drewN ?_ _ | refine blk_drew ?_ | refine blk_alloc ?_ _)); exact BK111.out)) : gb112 ≠ gb111)); clear HO0_0; clear HO0_1; clear BK111; clear HB; have HO0_0 := n0_; have HO0_1 := n1_; have BK111 := n2_; have HB := n3_; have BK112 := n4_; have GW112 := n5_; have GE112 := n6_; have NB111_112 := n7_; have NB112_111 := n8_; clear n0_ n1_ n2_ n3_ n4_ n5_ n6_ n7_ n8_; clear hb hbox hg; have hnb25 := NB111_112.out; have hnc25 := NB112_111.out; have hcz26_0 : w24.cell? ⟨gb111, 0, none⟩ = some (.slice A0_0 l0_0.length c0_0) := (blk_cell BK111.out 0).trans rfl; have hcz26_1 : w24.cell? ⟨gb111, 1, none⟩ = some (.slice A0_1 l0_1.length c0_1) := (blk_cell BK111.out 1).trans rfl; have hfz26_0 := blk_frozen BK111.out 0; have hfz26_1 := blk_frozen BK111.out 1; have q27 : (260 : Int) ≤ ((l0_1.length : Int) : Int) := of_decide_eq_true (by first | (with_reducible assumption) | assumption); obtain ⟨i027, hi027, _, hsz27, _⟩ := info_parts info42; have hroom27 : l0_1.length ≤ c0_1 := (Kd.V_reads' HO0_1.out).2.1; have hC27 : Kd.F k42 _ _ A0_1 l0_1.length l0_1 := (Kd.V_at (base := w.heap.size) HO0_1.out).2.2; have hcut27 := cut_to (P := Tryd.prog) 25 42 .i64 Tryd.underlying25 hi027 A0_1 l0_1.length c0_1 260 (by omega) q27 hroom27; have hr27 := Kd.F_take (m := 260) hC27 (by omega); have hy27 : y123.length = (260 : Int).toNat := (by rw [Ny123.out, List.length_take]; omega); rw [← Ny123.out] at hr27; rw [← hy27] at hcut27; have HO127 := Aside0.mk (show Kd.V k42 42 _ w.heap.size _ (.slice A0_1 y123.length c0_1) y123 from Kd.V_mk (by omega) hr27); have HC127 := Aside0.mk (show y123.length ≤ c0_1 from by omega); clear hr27 hC27 hroom27 hi027 hsz27; have KY27 := Aside0.mk hy27; clear hy27; replace q27 := eq_true q27; have hcz28_0 : w24.cell? ⟨gb112, 0, none⟩ = some (.slice none 0 0) := (blk_cell BK112.out 0).trans rfl; have hcz28_1 : w24.cell? ⟨gb112, 1, none⟩ = some (.slice none 0 0) := (blk_cell BK112.out 1).trans rfl; have hfz28_0 := blk_frozen BK112.out 0; have hfz28_1 := blk_frozen BK112.out 1))
    refine bodyPost_ret (results_cell_row rfl _ _ gb112 27 #[.slice A0_0 l0_0.length c0_0, .slice A0_1 y123.length c0_1] (0, 0) _ rfl (by (with_reducible repeat (first | refine blk_drewN ?_ _ | refine blk_drew ?_ | refine blk_alloc ?_ _)); refine blk_put (cs := #[.slice A0_0 l0_0.length c0_0, .slice none 0 0]) ?_ 1 _ rfl; (with_reducible repeat (first | refine blk_drewN ?_ _ | refine blk_drew ?_ | refine blk_alloc ?_ _)); refine blk_put (cs := #[.slice none 0 0, .slice none 0 0]) ?_ 0 _ rfl; (with_reducible repeat (first | refine blk_drewN ?_ _ | refine blk_drew ?_ | refine blk_alloc ?_ _)); refine blk_far ?_ NB112_111.out _; (with_reducible repeat (first | refine blk_drewN ?_ _ | refine blk_drew ?_ | refine blk_alloc ?_ _)); exact BK112.out) Tryd.underlying27 rfl (by kernel_rfl)) rfl ?_
    exact ⟨_, _, by first | rfl | (simp [errW_none, errW_some] <;> rfl) | (simp [*, errW_none, errW_some] <;> rfl), by (with_reducible repeat (first | apply Kd.V_alloc | apply Kd.V_drewN | apply Kd.V_drew)); exact Kd.V_mono (Kd.V_far (p := ⟨gb112, 1, none⟩) (Kd.V_far (p := ⟨gb112, 0, none⟩) (Kd.V_far (p := ⟨gb111, 1, none⟩) (Kd.V_mono (Kd.V_mono HO0_0.out (fun k_ hk => (⟨hk, hk.1.2⟩ : _ ∧ k_ ≠ gb111))) (fun k_ hk => (⟨hk, hk.1.2⟩ : _ ∧ k_ ≠ gb112))) (fun _ hk => hk.1.2) (.slice A0_1 y123.length c0_1)) (fun _ hk => hk.2) (.slice A0_0 l0_0.length c0_0)) (fun _ hk => hk.2) (.slice A0_1 y123.length c0_1)) (fun _ hk => hk.1.1.1.1), by (with_reducible repeat (first | apply Kd.V_alloc | apply Kd.V_drewN | apply Kd.V_drew)); exact Kd.V_mono (Kd.V_far (p := ⟨gb112, 1, none⟩) (Kd.V_far (p := ⟨gb112, 0, none⟩) (Kd.V_far (p := ⟨gb111, 1, none⟩) (Kd.V_mono (Kd.V_mono HO127.out (fun k_ hk => (⟨hk, hk.1.2⟩ : _ ∧ k_ ≠ gb111))) (fun k_ hk => (⟨hk, hk.1.2⟩ : _ ∧ k_ ≠ gb112))) (fun _ hk => hk.1.2) (.slice A0_1 y123.length c0_1)) (fun _ hk => hk.2) (.slice A0_0 l0_0.length c0_0)) (fun _ hk => hk.2) (.slice A0_1 y123.length c0_1)) (fun _ hk => hk.1.1.1.1), by repeat (first | (with_reducible first | exact HB.out | apply below_alloc | apply pw_below_drewN | apply below_drew1 | refine below_set ?_ GE111.out | refine below_set ?_ GE112.out) | exact HB.out)⟩
   ·rw [if_neg c22] at H
    exact absurd H (by simp)
  ·rw [if_neg c21] at H
   have c21b0 : decide (260 < (l0_1.length : Int)) = false := decide_eq_false c21
   have c21b1 : decide (260 < l0_1.length) = false := decide_eq_false (by omega)
   clear c21
   simp only [Option.some.injEq, Prod.mk.injEq] at H
   obtain ⟨rfl, rfl⟩ := H
   go_enter Tryd.func16, Tryd.ntmps16
   go_wp2_with (first | ((with_reducible refine gate_dst (N := 1) rfl ?_); refine box_event ?hg (N := 1) ?hd (cs := #[.slice A0_0 l0_0.length c0_0, .slice A0_1 l0_1.length c0_1]) (t := 27) ?hr ?_; (case hd => rfl); (case hg => rfl); (case hr => first | (go_simp; done) | (go_simp; rfl)); intro gb111 hg w29 hbox hb; have n0_ := Aside0.mk (Kd.V_below (Kd.V_elderB (by (with_reducible repeat (first | apply Kd.V_alloc | apply Kd.V_drewN | apply Kd.V_drew)); exact HO0_0.out) gb111 (Nat.le_of_eq hg.symm)) hb); have n1_ := Aside0.mk (Kd.V_below (Kd.V_elderB (by (with_reducible repeat (first | apply Kd.V_alloc | apply Kd.V_drewN | apply Kd.V_drew)); exact HO0_1.out) gb111 (Nat.le_of_eq hg.symm)) hb); have n2_ := Aside0.mk (below_step (by repeat (first | (with_reducible first | exact HB.out | apply below_alloc | apply pw_below_drewN | apply below_drew1) | exact HB.out)) hb); have n3_ := Aside0.mk (hbox); have n4_ := Aside0.mk ((by rw [hg]; exact (below_size (by repeat (first | (with_reducible first | exact HB.out | apply below_alloc | apply pw_below_drewN | apply below_drew1) | exact HB.out))) : w.heap.size ≤ gb111)); have n5_ := Aside0.mk ((by rw [hg]; exact (below_size (by repeat (first | (with_reducible first | exact HB.out | apply below_alloc | apply pw_below_drewN | apply below_drew1) | exact HB.out))) : w.heap.size ≤ gb111)); clear HO0_0; clear HO0_1; clear HB; have HO0_0 := n0_; have HO0_1 := n1_; have HB := n2_; have BK111 := n3_; have GW111 := n4_; have GE111 := n5_; clear n0_ n1_ n2_ n3_ n4_ n5_; clear hb hbox hg) | ((with_reducible refine gate_dst (N := 2) rfl ?_); refine box_event ?hg (N := 2) ?hd (cs := #[.slice none 0 0, .slice none 0 0]) (t := 27) ?hr ?_; (case hd => rfl); (case hg => rfl); (case hr => first | (go_simp; done) | (go_simp; rfl)); intro gb112 hg w30 hbox hb; have n0_ := Aside0.mk (Kd.V_below (Kd.V_elderB (by (with_reducible repeat (first | apply Kd.V_alloc | apply Kd.V_drewN | apply Kd.V_drew)); exact HO0_0.out) gb112 (Nat.le_of_eq hg.symm)) hb); have n1_ := Aside0.mk (Kd.V_below (Kd.V_elderB (by (with_reducible repeat (first | apply Kd.V_alloc | apply Kd.V_drewN | apply Kd.V_drew)); exact HO0_1.out) gb112 (Nat.le_of_eq hg.symm)) hb); have n2_ := Aside0.mk (blk_below (g := gb111) (o := .cells #[.slice A0_0 l0_0.length c0_0, .slice A0_1 l0_1.length c0_1] 27 (0, 0)) (by (with_reducible repeat (first | refine blk_drewN ?_ _ | refine blk_drew ?_ | refine blk_alloc ?_ _)); exact BK111.out) hb); have n3_ := Aside0.mk (below_step (by repeat (first | (with_reducible first | exact HB.out | apply below_alloc | apply pw_below_drewN | apply below_drew1 | refine below_set ?_ GE111.out) | exact HB.out)) hb); have n4_ := Aside0.mk (hbox); have n5_ := Aside0.mk ((by rw [hg]; exact (below_size (by repeat (first | (with_reducible first | exact HB.out | apply below_alloc | apply pw_below_drewN | apply below_drew1 | refine below_set ?_ GE111.out) | exact HB.out))) : w.heap.size ≤ gb112)); have n6_ := Aside0.mk ((by rw [hg]; exact (below_size (by repeat (first | (with_reducible first | exact HB.out | apply below_alloc | apply pw_below_drewN | apply below_drew1 | refine below_set ?_ GE111.out) | exact HB.out))) : w.heap.size ≤ gb112)); have n7_ := Aside0.mk ((by rw [hg]; exact Nat.ne_of_lt (blk_lt (g := gb111) (o := .cells #[.slice A0_0 l0_0.length c0_0, .slice A0_1 l0_1.length c0_1] 27 (0, 0)) (by (with_reducible repeat (first | refine blk_drewN ?_ _ | refine blk_drew ?_ | refine blk_alloc ?_ _)); exact BK111.out)) : gb111 ≠ gb112)); have n8_ := Aside0.mk ((by rw [hg]; exact Nat.ne_of_gt (blk_lt (g := gb111) (o := .cells #[.slice A0_0 l0_0.length c0_0, .slice A0_1 l0_1.length c0_1] 27 (0, 0)) (by (with_reducible repeat (first | refine blk_drewN ?_ _ | refine blk_drew ?_ | refine blk_alloc ?_ _)); exact BK111.out)) : gb112 ≠ gb111)); clear HO0_0; clear HO0_1; clear BK111; clear HB; have HO0_0 := n0_; have HO0_1 := n1_; have BK111 := n2_; have HB := n3_; have BK112 := n4_; have GW112 := n5_; have GE112 := n6_; have NB111_112 := n7_; have NB112_111 := n8_; clear n0_ n1_ n2_ n3_ n4_ n5_ n6_ n7_ n8_; clear hb hbox hg; have hnb31 := NB111_112.out; have hnc31 := NB112_111.out; have hcz32_0 : w30.cell? ⟨gb111, 0, none⟩ = some (.slice A0_0 l0_0.length c0_0) := (blk_cell BK111.out 0).trans rfl; have hcz32_1 : w30.cell? ⟨gb111, 1, none⟩ = some (.slice A0_1 l0_1.length c0_1) := (blk_cell BK111.out 1).trans rfl; have hfz32_0 := blk_frozen BK111.out 0; have hfz32_1 := blk_frozen BK111.out 1; have hcz33_0 : w30.cell? ⟨gb112, 0, none⟩ = some (.slice none 0 0) := (blk_cell BK112.out 0).trans rfl; have hcz33_1 : w30.cell? ⟨gb112, 1, none⟩ = some (.slice none 0 0) := (blk_cell BK112.out 1).trans rfl; have hfz33_0 := blk_frozen BK112.out 0; have hfz33_1 := blk_frozen BK112.out 1))
   refine bodyPost_ret (results_cell_row rfl _ _ gb112 27 #[.slice A0_0 l0_0.length c0_0, .slice A0_1 l0_1.length c0_1] (0, 0) _ rfl (by (with_reducible repeat (first | refine blk_drewN ?_ _ | refine blk_drew ?_ | refine blk_alloc ?_ _)); refine blk_put (cs := #[.slice A0_0 l0_0.length c0_0, .slice none 0 0]) ?_ 1 _ rfl; (with_reducible repeat (first | refine blk_drewN ?_ _ | refine blk_drew ?_ | refine blk_alloc ?_ _)); refine blk_put (cs := #[.slice none 0 0, .slice none 0 0]) ?_ 0 _ rfl; (with_reducible repeat (first | refine blk_drewN ?_ _ | refine blk_drew ?_ | refine blk_alloc ?_ _)); exact BK112.out) Tryd.underlying27 rfl (by kernel_rfl)) rfl ?_
   exact ⟨_, _, by first | rfl | (simp [errW_none, errW_some] <;> rfl) | (simp [*, errW_none, errW_some] <;> rfl), by (with_reducible repeat (first | apply Kd.V_alloc | apply Kd.V_drewN | apply Kd.V_drew)); exact Kd.V_mono (Kd.V_far (p := ⟨gb112, 1, none⟩) (Kd.V_far (p := ⟨gb112, 0, none⟩) (Kd.V_mono HO0_0.out (fun k_ hk => (⟨hk, hk.2⟩ : _ ∧ k_ ≠ gb112))) (fun _ hk => hk.2) (.slice A0_0 l0_0.length c0_0)) (fun _ hk => hk.2) (.slice A0_1 l0_1.length c0_1)) (fun _ hk => hk.1.1.1), by (with_reducible repeat (first | apply Kd.V_alloc | apply Kd.V_drewN | apply Kd.V_drew)); exact Kd.V_mono (Kd.V_far (p := ⟨gb112, 1, none⟩) (Kd.V_far (p := ⟨gb112, 0, none⟩) (Kd.V_mono HO0_1.out (fun k_ hk => (⟨hk, hk.2⟩ : _ ∧ k_ ≠ gb112))) (fun _ hk => hk.2) (.slice A0_0 l0_0.length c0_0)) (fun _ hk => hk.2) (.slice A0_1 l0_1.length c0_1)) (fun _ hk => hk.1.1.1), by repeat (first | (with_reducible first | exact HB.out | apply below_alloc | apply pw_below_drewN | apply below_drew1 | refine below_set ?_ GE111.out | refine below_set ?_ GE112.out) | exact HB.out)⟩

/-! ### meanderref10_small: function 31 -/
def meanderref10_small.f (a0 : Int) : Option (Bool) := if a0 ≥ 0 then (some (decide (a0 ≤ 255))) else (some false)
set_option maxHeartbeats 8000000 in
set_option maxRecDepth 100000 in
theorem meanderref10_small.calls (a0 : Int) (r : Bool) (w : World) (h : meanderref10_small.f a0 = some r) :
  Calls Tryd.prog 31 #[.int .i64 a0] w fun e w' => e = .returned (.bool r) ∧ Drawn0 w w' := by
 have H : (if a0 ≥ 0 then (some (decide (a0 ≤ 255))) else (some false)) = some r := h
 clear h
 by_cases c2 : a0 ≥ 0
 ·rw [if_pos c2] at H
  have c2b0 : decide (0 ≤ a0) = true := decide_eq_true c2
  clear c2
  obtain rfl := Option.some.inj H
  go_enter Tryd.func31, Tryd.ntmps31
  go_wp2
  go_ret
  exact ⟨by first | rfl | (simp; done) | (simp [*]; done), by repeat (first | exact Drawn0.refl _ | apply Drawn0.step)⟩
 ·rw [if_neg c2] at H
  have c2b0 : decide (0 ≤ a0) = false := decide_eq_false c2
  clear c2
  obtain rfl := Option.some.inj H
  go_enter Tryd.func31, Tryd.ntmps31
  go_wp2
  go_ret
  exact ⟨by first | rfl | (simp; done) | (simp [*]; done), by repeat (first | exact Drawn0.refl _ | apply Drawn0.step)⟩

/-! ### meanderref10_two: function 32 -/
def meanderref10_two.f (a0 : Int) : Option (Bool) := if a0 ≥ (-32768) then (some (decide (a0 ≤ 32767))) else (some false)
set_option maxHeartbeats 8000000 in
set_option maxRecDepth 100000 in
theorem meanderref10_two.calls (a0 : Int) (r : Bool) (w : World) (h : meanderref10_two.f a0 = some r) :
  Calls Tryd.prog 32 #[.int .i64 a0] w fun e w' => e = .returned (.bool r) ∧ Drawn0 w w' := by
 have H : (if a0 ≥ (-32768) then (some (decide (a0 ≤ 32767))) else (some false)) = some r := h
 clear h
 by_cases c2 : a0 ≥ (-32768)
 ·rw [if_pos c2] at H
  have c2b0 : decide ((-32768) ≤ a0) = true := decide_eq_true c2
  clear c2
  obtain rfl := Option.some.inj H
  go_enter Tryd.func32, Tryd.ntmps32
  go_wp2
  go_ret
  exact ⟨by first | rfl | (simp; done) | (simp [*]; done), by repeat (first | exact Drawn0.refl _ | apply Drawn0.step)⟩
 ·rw [if_neg c2] at H
  have c2b0 : decide ((-32768) ≤ a0) = false := decide_eq_false c2
  clear c2
  obtain rfl := Option.some.inj H
  go_enter Tryd.func32, Tryd.ntmps32
  go_wp2
  go_ret
  exact ⟨by first | rfl | (simp; done) | (simp [*]; done), by repeat (first | exact Drawn0.refl _ | apply Drawn0.step)⟩

end Go.Proofs.YtbjjcolbomaodaaDoor.PAll
