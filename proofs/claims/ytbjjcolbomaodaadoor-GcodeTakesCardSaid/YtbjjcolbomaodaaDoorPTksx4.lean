-- Laid by hprint.py of this repo: the kit's printer, and contracts by hand beside it. Not trusted: Lean checks it.
import Derived.Test.YtbjjcolbomaodaaDoorWZ
import Derived.Test.YtbjjcolbomaodaaDoorWY
import Derived.Test.YtbjjcolbomaodaaDoorPTksx0
namespace Go.Proofs.YtbjjcolbomaodaaDoor.PTks
open Go.RowKit Go.Proofs.YtbjjcolbomaodaaDoorW.PrintWords Go.Proofs.YtbjjcolbomaodaaDoorW.PrintLast Go.Proofs.YtbjjcolbomaodaaDoorW.PrintMore
attribute [local go_sem] max2_int min2_int max_two min_two max_three min_three max_four min_four   -- for this text's walks alone
set_option linter.unusedVariables false
set_option linter.unusedSimpArgs false

/-! ### gcode_Put: function 14 -/
def gcode_Put.nb (n : S40) : List Int := [n.f0 % 256, n.f3 % 256, n.f1 / 256 % 256, n.f1 % 256, n.f2 / 256 % 256, n.f2 % 256]
def gcode_Put.nbad (n : S40) : Bool := Gc.bad1 n.f0 || Gc.bad1 n.f3 || Gc.bad2 n.f1 || Gc.bad2 n.f2
def gcode_Put.eb (e : S42) : List Int := [e.f0 % 256, e.f1 % 256, e.f2 % 256]
def gcode_Put.ebad (e : S42) : Bool := Gc.bad1 e.f0 || Gc.bad1 e.f1 || Gc.bad1 e.f2
def gcode_Put.p1 (ns : List (S40)) (i : Nat) : List Int := [77, 71] ++ [(ns.length : Int) % 256] ++ (ns.take i).flatMap gcode_Put.nb
def gcode_Put.b1 (ns : List (S40)) (i : Nat) : Bool := (false || Gc.bad1 (ns.length : Int)) || (ns.take i).any gcode_Put.nbad
def gcode_Put.p2 (ns : List (S40)) (es : List (S42)) (i : Nat) : List Int := gcode_Put.p1 ns ns.length ++ [(es.length : Int) % 256] ++ (es.take i).flatMap gcode_Put.eb
def gcode_Put.b2 (ns : List (S40)) (es : List (S42)) (i : Nat) : Bool := (gcode_Put.b1 ns ns.length || Gc.bad1 (es.length : Int)) || (es.take i).any gcode_Put.ebad
def gcode_Put.f (l0_0 : List (S40)) (l0_1 : List (S42)) : Option (List Int × Int) := if l0_0.length ≤ 1000 ∧ l0_1.length ≤ 1000 then some (if gcode_Put.b2 l0_0 l0_1 l0_1.length = true then ([], 1) else (gcode_Put.p2 l0_0 l0_1 l0_1.length, 0)) else none
theorem gcode_Put.p1_len (ns : List (S40)) (i : Nat) : (gcode_Put.p1 ns i).length = 3 + 6 * (ns.take i).length := by
  have h : ∀ l : List (S40), (l.flatMap gcode_Put.nb).length = 6 * l.length := by
    intro l
    induction l with
    | nil => rfl
    | cons x l ih => rw [List.flatMap_cons, List.length_append, ih, List.length_cons]; simp [gcode_Put.nb]; omega
  simp [gcode_Put.p1, h]; omega
theorem gcode_Put.p2_len (ns : List (S40)) (es : List (S42)) (i : Nat) : (gcode_Put.p2 ns es i).length = 4 + 6 * ns.length + 3 * (es.take i).length := by
  have h : ∀ l : List (S42), (l.flatMap gcode_Put.eb).length = 3 * l.length := by
    intro l
    induction l with
    | nil => rfl
    | cons x l ih => rw [List.flatMap_cons, List.length_append, ih, List.length_cons]; simp [gcode_Put.eb]; omega
  have h1 := gcode_Put.p1_len ns ns.length
  simp [gcode_Put.p2, h]
  simp at h1
  omega
theorem gcode_Put.p1_step (ns : List (S40)) (i : Nat) (h : i < ns.length) : ((((gcode_Put.p1 ns i ++ [(rd_T40 ns i).f0 % 256]) ++ [(rd_T40 ns i).f3 % 256]) ++ [(rd_T40 ns i).f1 / 256 % 256, (rd_T40 ns i).f1 % 256]) ++ [(rd_T40 ns i).f2 / 256 % 256, (rd_T40 ns i).f2 % 256]) = gcode_Put.p1 ns (i + 1) := by
  have e : rd_T40 ns (i : Int) = ns[i] := by simp [rd_T40, h]
  rw [e]
  unfold gcode_Put.p1
  rw [List.take_succ_eq_append_getElem h, List.flatMap_append]
  simp only [List.flatMap_cons, List.flatMap_nil, List.append_nil, List.append_assoc, List.cons_append, List.nil_append, gcode_Put.nb]
theorem gcode_Put.b1_step (ns : List (S40)) (i : Nat) (h : i < ns.length) : ((((gcode_Put.b1 ns i || Gc.bad1 (rd_T40 ns i).f0) || Gc.bad1 (rd_T40 ns i).f3) || Gc.bad2 (rd_T40 ns i).f1) || Gc.bad2 (rd_T40 ns i).f2) = gcode_Put.b1 ns (i + 1) := by
  have e : rd_T40 ns (i : Int) = ns[i] := by simp [rd_T40, h]
  rw [e]
  unfold gcode_Put.b1
  rw [List.take_succ_eq_append_getElem h, List.any_append]
  simp only [List.any_cons, List.any_nil, Bool.or_false, gcode_Put.nbad, Bool.or_assoc]
theorem gcode_Put.p2_step (ns : List (S40)) (es : List (S42)) (i : Nat) (h : i < es.length) : (((gcode_Put.p2 ns es i ++ [(rd_T42 es i).f0 % 256]) ++ [(rd_T42 es i).f1 % 256]) ++ [(rd_T42 es i).f2 % 256]) = gcode_Put.p2 ns es (i + 1) := by
  have e : rd_T42 es (i : Int) = es[i] := by simp [rd_T42, h]
  rw [e]
  unfold gcode_Put.p2
  rw [List.take_succ_eq_append_getElem h, List.flatMap_append]
  simp only [List.flatMap_cons, List.flatMap_nil, List.append_nil, List.append_assoc, List.cons_append, List.nil_append, gcode_Put.eb]
theorem gcode_Put.b2_step (ns : List (S40)) (es : List (S42)) (i : Nat) (h : i < es.length) : (((gcode_Put.b2 ns es i || Gc.bad1 (rd_T42 es i).f0) || Gc.bad1 (rd_T42 es i).f1) || Gc.bad1 (rd_T42 es i).f2) = gcode_Put.b2 ns es (i + 1) := by
  have e : rd_T42 es (i : Int) = es[i] := by simp [rd_T42, h]
  rw [e]
  unfold gcode_Put.b2
  rw [List.take_succ_eq_append_getElem h, List.any_append]
  simp only [List.any_cons, List.any_nil, Bool.or_false, gcode_Put.ebad, Bool.or_assoc]
theorem gcode_Put.wrap_ok (i n : Nat) (h : i < n) (hn : n ≤ 1000) : wrap64 ((i : Int) + 1) = ((i + 1 : Nat) : Int) := by
  unfold wrap64
  omega
set_option maxHeartbeats 6400000 in
set_option maxRecDepth 100000 in
theorem gcode_Put.calls (A0_0 : Option Addr) (c0_0 : Nat) (l0_0 : List (S40)) (A0_1 : Option Addr) (c0_1 : Nat) (l0_1 : List (S42)) (r1 : List Int) (r2 : Int) (w : World) (hr0_0 : Kd.C k40 w A0_0 l0_0.length l0_0) (hc0_0 : l0_0.length ≤ c0_0) (hr0_1 : Kd.C k42 w A0_1 l0_1.length l0_1) (hc0_1 : l0_1.length ≤ c0_1) (h : gcode_Put.f l0_0 l0_1 = some (r1, r2)) :
    Calls Tryd.prog 14 #[.agg #[.slice A0_0 l0_0.length c0_0, .slice A0_1 l0_1.length c0_1]] w fun e w' => ∃ v0_ : Value, e = .returned (.tuple #[v0_, .int .i64 r2]) ∧ Kd.R (Kd.int .u8) 5 w' w.heap.size (fun _ => True) v0_ r1 ∧ Below w.heap.size w w' := by
  have HR0 := ZM hr0_0
  have HR1 := ZM hr0_1
  unfold gcode_Put.f at h
  split at h
  case isFalse => cases h
  case isTrue hl =>
  have HL := ZM hl
  have H := ZM h
  clear hr0_0 hr0_1 hc0_0 hc0_1 h hl
  obtain ⟨g, hg⟩ : ∃ g : Nat, g = w.heap.size := ⟨_, rfl⟩
  obtain ⟨W0, hW0⟩ : ∃ W0 : World, W0 = (w.alloc (.cells #[.slice A0_0 l0_0.length c0_0, .slice A0_1 l0_1.length c0_1] 27)).alloc (.cells #[.slice none 0 0, .int .i64 0, .int .i8 0, .bool false] 55) := ⟨_, rfl⟩
  have hz : W0.heap.size = g + 2 := by rw [hW0, hg]; simp
  have hb : W0.heap[g + 1]? = some (.cells #[.slice none 0 0, .int .i64 0, .int .i8 0, .bool false] 55 (0, 0)) := by
    rw [hW0, hg]
    have := blk_new (w.alloc (.cells #[.slice A0_0 l0_0.length c0_0, .slice A0_1 l0_1.length c0_1] 27)) (.cells #[.slice none 0 0, .int .i64 0, .int .i8 0, .bool false] 55)
    simpa using this
  have hgb : W0.heap[g]? = some (.cells #[.slice A0_0 l0_0.length c0_0, .slice A0_1 l0_1.length c0_1] 27 (0, 0)) := by
    rw [hW0, hg]
    rw [Below.heap_alloc _ _ _ (by simp)]
    exact blk_new _ _
  have HBW : Aside0 (Below w.heap.size w W0) := ⟨by rw [hW0]; exact ZO (ZO (Below.refl w.heap.size w) _) _⟩
  have HS : Aside0 (Gc.St (g + 1) W0 false [] W0) := ⟨⟨LibA.zero_isBuffer (Nat.le_refl _) (lr := 0) ⟨_, hb, rfl, rfl, rfl, fun i hi => by
    unfold Gc.RB
    have h3 : 3 ≤ i := by omega
    rcases Nat.lt_or_ge 3 i with h4 | h4
    · rw [if_neg (by omega)]; exact Array.getElem?_eq_none (by simp; omega)
    · obtain rfl : i = 3 := by omega
      rfl⟩, Below.refl _ _, by omega⟩⟩
  have HGB := ZM hgb
  have HZ := ZM hz
  have HG := ZM hg
  have HW := ZM hW0
  clear hgb hz hb hW0 hg
  go_enter Tryd.func14, Tryd.ntmps14
  go_wp2_with (go_at_call 23; rw [← HG.out, ← HW.out]; refine HS.out.magic.mono ?_; rintro e w1 ⟨rfl, HS1⟩; replace HS1 := ZM HS1; have hg0 : w1.cell? ⟨g, 0, none⟩ = some (.slice A0_0 l0_0.length c0_0) := (ZG ((HS1.out.2.1.block g (by omega)).trans HGB.out) 0).trans rfl; refine Hid.out ?_)
  refine Lib.hid ?_
  go_wp2_with (go_at_call 24; refine (HS1.out.byte (l0_0.length : Int) (by decide)).mono ?_; rintro e w2 ⟨rfl, HS2, -⟩; replace HS2 := ZM HS2; clear hg0; have hg0 : w2.cell? ⟨g, 0, none⟩ = some (.slice A0_0 l0_0.length c0_0) := (ZG ((HS2.out.2.1.block g (by omega)).trans HGB.out) 0).trans rfl)
  clear hg0
  go_loopw [20] (fun v20 w' => ∃ i : Nat, v20 = .int .i64 (i : Int) ∧ Aside0 (i ≤ l0_0.length) ∧ Aside0 (Gc.St (g + 1) W0 (gcode_Put.b1 l0_0 i) (gcode_Put.p1 l0_0 i) w')) (fun v20 _ => l0_0.length - (intOf v20).toNat)
  case atStart => exact ⟨0, rfl, ⟨Nat.zero_le _⟩, ⟨by have := HS2.out; simpa [gcode_Put.b1, gcode_Put.p1] using this⟩⟩
  case round =>
    clear HS HS1 HS2
    obtain ⟨i, rfl, HI, HS⟩ := hrel
    by_cases c : i < l0_0.length
    · have d : decide ((i : Int) < (l0_0.length : Int)) = true := decide_eq_true (by omega)
      have p0 : (0 : Int) ≤ (i : Int) := by omega
      have p1 : (i : Int) < (l0_0.length : Int) := by omega
      have HBn := ZM (HBW.out.trans ((HS.out.2.1).mono (show w.heap.size ≤ g + 1 from by have := HG.out; omega)))
      obtain ⟨ad, rfl, hx0, hx1, hx2, hx3⟩ := at_T40 (Kd.C_below HR0.out HBn.out) (i : Int) p0 p1
      simp only [Int.toNat_natCast] at hx0 hx1 hx2 hx3
      have C := ZM c
      have HM := ZM (show (gcode_Put.p1 l0_0 i).length ≤ 7000 from by have := gcode_Put.p1_len l0_0 i; have := HL.out; rw [List.length_take] at *; omega)
      have HNE := ZM (show wr.heap.size ≠ g + 1 from by have := HS.out.lt; omega)
      have HWR := ZM (gcode_Put.wrap_ok i l0_0.length C.out HL.out.1)
      replace p0 := eq_true p0
      replace p1 := eq_true p1
      clear c
      go_wp2_with (go_at_call 24; refine ((HS.out.alloc (.cells #[.int .i64 (rd_T40 l0_0 (i : Int)).f0, .int .i64 (rd_T40 l0_0 (i : Int)).f1, .int .i64 (rd_T40 l0_0 (i : Int)).f2, .int .i64 (rd_T40 l0_0 (i : Int)).f3] 40)).byte (rd_T40 l0_0 (i : Int)).f0 (by have := HM.out; (try simp only [List.length_append, List.length_cons, List.length_nil]); omega)).mono ?_; rintro e w3 ⟨rfl, T1, k_⟩; replace T1 := ZM T1; have B1 := ZM (Gc.kept k_ (blk_new wr (.cells #[.int .i64 (rd_T40 l0_0 (i : Int)).f0, .int .i64 (rd_T40 l0_0 (i : Int)).f1, .int .i64 (rd_T40 l0_0 (i : Int)).f2, .int .i64 (rd_T40 l0_0 (i : Int)).f3] 40)) HNE.out (by decide)); clear k_; have cx : w3.cell? ⟨wr.heap.size, 3, none⟩ = some (.int .i64 (rd_T40 l0_0 (i : Int)).f3) := (ZG B1.out 3).trans rfl; refine Hid.out ?_)
      refine Lib.hid ?_
      go_wp2_with (go_at_call 24; refine ((T1.out).byte (rd_T40 l0_0 (i : Int)).f3 (by have := HM.out; (try simp only [List.length_append, List.length_cons, List.length_nil]); omega)).mono ?_; clear cx; rintro e w4 ⟨rfl, T2, k_⟩; replace T2 := ZM T2; have B2 := ZM (Gc.kept k_ B1.out HNE.out (by decide)); clear k_; have cx : w4.cell? ⟨wr.heap.size, 1, none⟩ = some (.int .i64 (rd_T40 l0_0 (i : Int)).f1) := (ZG B2.out 1).trans rfl; refine Hid.out ?_)
      refine Lib.hid ?_
      go_wp2_with (go_at_call 25; refine ((T2.out).two (rd_T40 l0_0 (i : Int)).f1 (by have := HM.out; (try simp only [List.length_append, List.length_cons, List.length_nil]); omega)).mono ?_; clear cx; rintro e w5 ⟨rfl, T3, k_⟩; replace T3 := ZM T3; have B3 := ZM (Gc.kept k_ B2.out HNE.out (by decide)); clear k_; have cx : w5.cell? ⟨wr.heap.size, 2, none⟩ = some (.int .i64 (rd_T40 l0_0 (i : Int)).f2) := (ZG B3.out 2).trans rfl; refine Hid.out ?_)
      refine Lib.hid ?_
      go_wp2_with (go_at_call 25; refine ((T3.out).two (rd_T40 l0_0 (i : Int)).f2 (by have := HM.out; (try simp only [List.length_append, List.length_cons, List.length_nil]); omega)).mono ?_; clear cx; rintro e w6 ⟨rfl, T4, k_⟩; replace T4 := ZM T4; have B4 := ZM (Gc.kept k_ B3.out HNE.out (by decide)); clear k_)
      clear hx0 hx1 hx2 hx3 d p0 p1
      try rw [HWR.out]
      go_roundw
      case rel => exact ⟨i + 1, rfl, ⟨by have := C.out; omega⟩, ⟨by rw [← gcode_Put.b1_step l0_0 i C.out, ← gcode_Put.p1_step l0_0 i C.out]; exact T4.out⟩⟩
      case measure => have := C.out; simp [intOf]; omega
    · have d : decide ((i : Int) < (l0_0.length : Int)) = false := decide_eq_false (by omega)
      obtain rfl : i = l0_0.length := by have := HI.out; omega
      have HM := ZM (show (gcode_Put.p1 l0_0 l0_0.length).length ≤ 7000 from by have := gcode_Put.p1_len l0_0 l0_0.length; have := HL.out; rw [List.length_take] at *; omega)
      have hg1 : wr.cell? ⟨g, 1, none⟩ = some (.slice A0_1 l0_1.length c0_1) := (ZG ((HS.out.2.1.block g (by omega)).trans HGB.out) 1).trans rfl
      clear c
      go_wp2_with (go_at_call 24; refine (HS.out.byte (l0_1.length : Int) (by have := HM.out; omega)).mono ?_; rintro e w3 ⟨rfl, S3, -⟩; replace S3 := ZM S3; clear hg1; have hg1 : w3.cell? ⟨g, 1, none⟩ = some (.slice A0_1 l0_1.length c0_1) := (ZG ((S3.out.2.1.block g (by omega)).trans HGB.out) 1).trans rfl)
      clear hg1 d HM HS HI
      go_loopw [44] (fun v44 w' => ∃ i : Nat, v44 = .int .i64 (i : Int) ∧ Aside0 (i ≤ l0_1.length) ∧ Aside0 (Gc.St (g + 1) W0 (gcode_Put.b2 l0_0 l0_1 i) (gcode_Put.p2 l0_0 l0_1 i) w')) (fun v44 _ => l0_1.length - (intOf v44).toNat)
      case atStart => exact ⟨0, rfl, ⟨Nat.zero_le _⟩, ⟨by have := S3.out; simpa [gcode_Put.b2, gcode_Put.p2] using this⟩⟩
      case round =>
        clear S3
        obtain ⟨i, rfl, HI, HS⟩ := hrel
        by_cases c : i < l0_1.length
        · have d : decide ((i : Int) < (l0_1.length : Int)) = true := decide_eq_true (by omega)
          have p0 : (0 : Int) ≤ (i : Int) := by omega
          have p1 : (i : Int) < (l0_1.length : Int) := by omega
          have HBn := ZM (HBW.out.trans ((HS.out.2.1).mono (show w.heap.size ≤ g + 1 from by have := HG.out; omega)))
          obtain ⟨ad, rfl, hx0, hx1, hx2⟩ := at_T42 (Kd.C_below HR1.out HBn.out) (i : Int) p0 p1
          simp only [Int.toNat_natCast] at hx0 hx1 hx2
          have C := ZM c
          have HM := ZM (show (gcode_Put.p2 l0_0 l0_1 i).length ≤ 10100 from by have := gcode_Put.p2_len l0_0 l0_1 i; have := HL.out; rw [List.length_take] at *; omega)
          obtain ⟨N, hN⟩ : ∃ N : Nat, N = wr.heap.size := ⟨_, rfl⟩
          have HN := ZM hN
          have HNE := ZM (show N + 1 ≠ g + 1 from by have := HS.out.lt; omega)
          have HWR := ZM (gcode_Put.wrap_ok i l0_1.length C.out HL.out.2)
          have T0 : Aside0 (Gc.St (g + 1) W0 (gcode_Put.b2 l0_0 l0_1 i) (gcode_Put.p2 l0_0 l0_1 i) ((wr.alloc (.cells #[.int .i64 (rd_T42 l0_1 (i : Int)).f0, .int .i64 (rd_T42 l0_1 (i : Int)).f1, .int .i64 (rd_T42 l0_1 (i : Int)).f2] 42)).alloc (.cells #[.int .i64 (rd_T42 l0_1 (i : Int)).f0, .int .i64 (rd_T42 l0_1 (i : Int)).f1, .int .i64 (rd_T42 l0_1 (i : Int)).f2] 3))) := ⟨(HS.out.alloc _).alloc _⟩
          have B0 : Aside0 (((wr.alloc (.cells #[.int .i64 (rd_T42 l0_1 (i : Int)).f0, .int .i64 (rd_T42 l0_1 (i : Int)).f1, .int .i64 (rd_T42 l0_1 (i : Int)).f2] 42)).alloc (.cells #[.int .i64 (rd_T42 l0_1 (i : Int)).f0, .int .i64 (rd_T42 l0_1 (i : Int)).f1, .int .i64 (rd_T42 l0_1 (i : Int)).f2] 3)).heap[N + 1]? = some (.cells #[.int .i64 (rd_T42 l0_1 (i : Int)).f0, .int .i64 (rd_T42 l0_1 (i : Int)).f1, .int .i64 (rd_T42 l0_1 (i : Int)).f2] 3 (0, 0))) := ⟨by
            have := blk_new (wr.alloc (.cells #[.int .i64 (rd_T42 l0_1 (i : Int)).f0, .int .i64 (rd_T42 l0_1 (i : Int)).f1, .int .i64 (rd_T42 l0_1 (i : Int)).f2] 42)) (.cells #[.int .i64 (rd_T42 l0_1 (i : Int)).f0, .int .i64 (rd_T42 l0_1 (i : Int)).f1, .int .i64 (rd_T42 l0_1 (i : Int)).f2] 3)
            rw [hN]
            simpa using this⟩
          replace p0 := eq_true p0
          replace p1 := eq_true p1
          clear c hN
          go_wp2
          (try rw [← HN.out])
          clear hx0 hx1 hx2 d p0 p1
          go_loopw [56] (fun v56 w' => ∃ j : Nat, v56 = .int .i64 (j : Int) ∧ Aside0 (j ≤ 3) ∧ Aside0 (Gc.St (g + 1) W0 (gcode_Put.b2 l0_0 l0_1 i || ([(rd_T42 l0_1 (i : Int)).f0, (rd_T42 l0_1 (i : Int)).f1, (rd_T42 l0_1 (i : Int)).f2].take j).any Gc.bad1) (gcode_Put.p2 l0_0 l0_1 i ++ ([(rd_T42 l0_1 (i : Int)).f0, (rd_T42 l0_1 (i : Int)).f1, (rd_T42 l0_1 (i : Int)).f2].take j).map (· % 256)) w') ∧ Aside0 (w'.heap[N + 1]? = some (.cells #[.int .i64 (rd_T42 l0_1 (i : Int)).f0, .int .i64 (rd_T42 l0_1 (i : Int)).f1, .int .i64 (rd_T42 l0_1 (i : Int)).f2] 3 (0, 0)))) (fun v56 _ => 3 - (intOf v56).toNat)
          case atStart => exact ⟨0, rfl, ⟨by omega⟩, ⟨by have := T0.out; simpa using this⟩, B0⟩
          case round =>
            clear T0 B0
            obtain ⟨j, rfl, HJ, T, BL⟩ := hrel
            have j3 : j = 0 ∨ j = 1 ∨ j = 2 ∨ j = 3 := by have := HJ.out; omega
            rcases j3 with rfl | rfl | rfl | rfl
            · have cx : wr.cell? ⟨N + 1, 0, none⟩ = some (.int .i64 (rd_T42 l0_1 (i : Int)).f0) := (ZG BL.out 0).trans rfl
              go_wp2_with (go_at_call 24; refine (T.out.byte (rd_T42 l0_1 (i : Int)).f0 (by have := HM.out; simp; omega)).mono ?_; rintro e w4 ⟨rfl, T4, k4⟩; replace T4 := ZM T4; have B4 := ZM (Gc.kept k4 BL.out HNE.out (by decide)); clear k4)
              clear cx
              go_roundw
              case rel => exact ⟨1, rfl, ⟨by omega⟩, ⟨by have := T4.out; simpa [Bool.or_assoc] using this⟩, B4⟩
              case measure => simp [intOf]
            · have cx : wr.cell? ⟨N + 1, 1, none⟩ = some (.int .i64 (rd_T42 l0_1 (i : Int)).f1) := (ZG BL.out 1).trans rfl
              go_wp2_with (go_at_call 24; refine (T.out.byte (rd_T42 l0_1 (i : Int)).f1 (by have := HM.out; simp; omega)).mono ?_; rintro e w4 ⟨rfl, T4, k4⟩; replace T4 := ZM T4; have B4 := ZM (Gc.kept k4 BL.out HNE.out (by decide)); clear k4)
              clear cx
              go_roundw
              case rel => exact ⟨2, rfl, ⟨by omega⟩, ⟨by have := T4.out; simpa [Bool.or_assoc] using this⟩, B4⟩
              case measure => simp [intOf]
            · have cx : wr.cell? ⟨N + 1, 2, none⟩ = some (.int .i64 (rd_T42 l0_1 (i : Int)).f2) := (ZG BL.out 2).trans rfl
              go_wp2_with (go_at_call 24; refine (T.out.byte (rd_T42 l0_1 (i : Int)).f2 (by have := HM.out; simp; omega)).mono ?_; rintro e w4 ⟨rfl, T4, k4⟩; replace T4 := ZM T4; have B4 := ZM (Gc.kept k4 BL.out HNE.out (by decide)); clear k4)
              clear cx
              go_roundw
              case rel => exact ⟨3, rfl, ⟨by omega⟩, ⟨by have := T4.out; simpa [Bool.or_assoc] using this⟩, B4⟩
              case measure => simp [intOf]
            · go_wp2
              try rw [HWR.out]
              go_roundw
              case rel => exact ⟨i + 1, rfl, ⟨by have := C.out; omega⟩, ⟨by rw [← gcode_Put.b2_step l0_0 l0_1 i C.out, ← gcode_Put.p2_step l0_0 l0_1 i C.out]; have := T.out; simpa [Bool.or_assoc] using this⟩⟩
              case measure => have := C.out; simp [intOf]; omega
        · have d : decide ((i : Int) < (l0_1.length : Int)) = false := decide_eq_false (by omega)
          obtain rfl : i = l0_1.length := by have := HI.out; omega
          have HBn := ZM (HBW.out.trans ((HS.out.2.1).mono (show w.heap.size ≤ g + 1 from by have := HG.out; omega)))
          have HSZ := ZM (show w.heap.size ≤ g + 1 from by have := HG.out; omega)
          have H2 := H.out
          clear H
          cases hbad : gcode_Put.b2 l0_0 l0_1 l0_1.length
          · rw [hbad] at HS H2
            have cb : wr.cell? ⟨g + 1, 3, none⟩ = some (.bool false) := HS.out.1.rest 3 (Or.inr (by omega))
            simp only [Bool.false_eq_true, if_false, Option.some.injEq, Prod.mk.injEq] at H2
            obtain ⟨rfl, rfl⟩ := H2
            clear c
            go_wp2_with (go_at_call 26; refine HS.out.result.mono ?_; rintro e w4 ⟨v, rfl, hR, hB⟩; have HR := ZM (Kd.R_lower hR HSZ.out); have HB := ZM (HBW.out.trans (hB.mono HSZ.out)); clear hR hB)
            go_ret2
            exact ⟨_, rfl, HR.out, HB.out⟩
          · rw [hbad] at HS H2
            have cb : wr.cell? ⟨g + 1, 3, none⟩ = some (.bool true) := HS.out.1.rest 3 (Or.inr (by omega))
            simp only [if_true, Option.some.injEq, Prod.mk.injEq] at H2
            obtain ⟨rfl, rfl⟩ := H2
            clear c
            go_wp2
            go_ret2
            exact ⟨_, rfl, Kd.R_nil _ _ _ _ _, HBn.out⟩

/-! ### meanderlaw10_shown: function 8 -/
def meanderlaw10_shown.f  : Option (Bool) := (gcode_Put.f (([(⟨1, 0, 0, 0⟩ : S40), (⟨11, 0, 0, 0⟩ : S40)] : List (S40))) (([(⟨0, 1, 0⟩ : S42)] : List (S42)))).bind fun bt107 => (if (strOfNums bt107.1).toList = ([77, 71, 2, 1, 0, 0, 0, 0, 0, 11, 0, 0, 0, 0, 0, 1, 0, 1, 0] : List UInt8) then (some (bt107.2 == 0)) else (some false))
set_option maxHeartbeats 8000000 in
set_option maxRecDepth 100000 in
theorem meanderlaw10_shown.calls  (r : Bool) (w : World) (h : meanderlaw10_shown.f  = some r) :
  Calls Tryd.prog 8 #[] w fun e w' => e = .returned (.bool r) ∧ Below w.heap.size w w' := by
 have hu40 := Tryd.underlying40
 have hu42 := Tryd.underlying42
 have hu27 := Tryd.underlying27
 have HB := ZM (Below.refl w.heap.size w)
 have H : ((gcode_Put.f (([(⟨1, 0, 0, 0⟩ : S40), (⟨11, 0, 0, 0⟩ : S40)] : List (S40))) (([(⟨0, 1, 0⟩ : S42)] : List (S42)))).bind fun bt107 => (if (strOfNums bt107.1).toList = ([77, 71, 2, 1, 0, 0, 0, 0, 0, 11, 0, 0, 0, 0, 0, 1, 0, 1, 0] : List UInt8) then (some (bt107.2 == 0)) else (some false))) = some r := h
 clear h
 obtain ⟨y101, hy101⟩ : ∃ y_ : List (S40), y_ = (([(⟨1, 0, 0, 0⟩ : S40), (⟨11, 0, 0, 0⟩ : S40)] : List (S40))) := ⟨_, rfl⟩
 replace H : ((gcode_Put.f y101 (([(⟨0, 1, 0⟩ : S42)] : List (S42)))).bind fun bt107 => (if (strOfNums bt107.1).toList = ([77, 71, 2, 1, 0, 0, 0, 0, 0, 11, 0, 0, 0, 0, 0, 1, 0, 1, 0] : List UInt8) then (some (bt107.2 == 0)) else (some false))) = some r := by first | (rw [hy101]; with_reducible exact H) | (have H2_ := (Option.bind_some _ _).symm.trans H; rw [hy101]; with_reducible exact H2_) | (have H2_ := (Option.bind_some _ _).symm.trans H; with_reducible exact H2_) | with_reducible exact H | (rw [hy101]; exact H) | exact H
 have Ny101 := ZM hy101
 clear hy101
 obtain ⟨y104, hy104⟩ : ∃ y_ : List (S42), y_ = (([(⟨0, 1, 0⟩ : S42)] : List (S42))) := ⟨_, rfl⟩
 replace H : ((gcode_Put.f y101 y104).bind fun bt107 => (if (strOfNums bt107.1).toList = ([77, 71, 2, 1, 0, 0, 0, 0, 0, 11, 0, 0, 0, 0, 0, 1, 0, 1, 0] : List UInt8) then (some (bt107.2 == 0)) else (some false))) = some r := by first | (rw [hy104]; with_reducible exact H) | (have H2_ := (Option.bind_some _ _).symm.trans H; rw [hy104]; with_reducible exact H2_) | (have H2_ := (Option.bind_some _ _).symm.trans H; with_reducible exact H2_) | with_reducible exact H | (rw [hy104]; exact H) | exact H
 have Ny104 := ZM hy104
 clear hy104
 replace H := Option.bind_eq_some_iff.mp H
 obtain ⟨⟨t107, t110⟩, A10, H⟩ := H
 replace H : (if (strOfNums t107).toList = ([77, 71, 2, 1, 0, 0, 0, 0, 0, 11, 0, 0, 0, 0, 0, 1, 0, 1, 0] : List UInt8) then (some (t110 == 0)) else (some false)) = some r := H
 have A1 := ZM A10
 clear A10
 by_cases c2 : (strOfNums t107).toList = ([77, 71, 2, 1, 0, 0, 0, 0, 0, 11, 0, 0, 0, 0, 0, 1, 0, 1, 0] : List UInt8)
 ·rw [if_pos c2] at H
  have c2b0 : ((strOfNums t107).toList == ([77, 71, 2, 1, 0, 0, 0, 0, 0, 11, 0, 0, 0, 0, 0, 1, 0, 1, 0] : List UInt8)) = true := beq_iff_eq.mpr c2
  have c2b1 : ((strOfNums t107).toList != ([77, 71, 2, 1, 0, 0, 0, 0, 0, 11, 0, 0, 0, 0, 0, 1, 0, 1, 0] : List UInt8)) = false := bne_eq_false_iff_eq.mpr c2
  clear c2
  obtain rfl := Option.some.inj H
  go_enter Tryd.func8, Tryd.ntmps8
  go_wp2_with (first | ((with_reducible refine gate_dst (N := 6) rfl ?_); refine Kd.R_lit k40 _ 40 ?hg (N := 6) ?hd (xs := ([(⟨1, 0, 0, 0⟩ : S40), (⟨11, 0, 0, 0⟩ : S40)] : List (S40))) (inner := [.int .i64 1, .int .i64 0, .int .i64 0, .int .i64 0, .int .i64 11, .int .i64 0, .int .i64 0, .int .i64 0]) (ok := fun _ => True) (okp := fun _ => True) ?hr ?hp (fun _ hk => hk) trivial (Below.refl _ _) (Nat.le_refl _) (by simp) ?_; (case hd => rfl); (case hg => rfl); (case hr => first | (go_simp; done) | (go_simp; rfl)); (case hp => exact (Reps.c4 (show Kd.M k40 _ _ _ (⟨1, 0, 0, 0⟩ : S40) [.int .i64 1, .int .i64 0, .int .i64 0, .int .i64 0] from (k40_mkM _ _ _ (⟨1, 0, 0, 0⟩ : S40) )) (Reps.c4 (show Kd.M k40 _ _ _ (⟨11, 0, 0, 0⟩ : S40) [.int .i64 11, .int .i64 0, .int .i64 0, .int .i64 0] from (k40_mkM _ _ _ (⟨11, 0, 0, 0⟩ : S40) )) (Reps.none _ _)))); intro v102 w3 ho4 hb hg_ hnew_; clear hg_ hnew_; (first | rw [← Ny101.out] at ho4 | (simp only [Int.reduceToNat] at ho4; rw [← Ny101.out] at ho4)); have n0_ := ZM (Kd.R_lower ho4 (ZV (ZBB HB.out))); have n1_ := ZM (ZW (ZBB HB.out) hb); clear HB; have HO103 := n0_; have HB := n1_; clear n0_ n1_; clear hb ho4) | ((with_reducible refine gate_dst (N := 8) rfl ?_); refine Kd.R_lit k42 _ 42 ?hg (N := 8) ?hd (xs := ([(⟨0, 1, 0⟩ : S42)] : List (S42))) (inner := [.int .i64 0, .int .i64 1, .int .i64 0]) (ok := fun _ => True) (okp := fun _ => True) ?hr ?hp (fun _ hk => hk) trivial (Below.refl _ _) (Nat.le_refl _) (by simp) ?_; (case hd => rfl); (case hg => rfl); (case hr => first | (go_simp; done) | (go_simp; rfl)); (case hp => exact (Reps.c3 (show Kd.M k42 _ _ _ (⟨0, 1, 0⟩ : S42) [.int .i64 0, .int .i64 1, .int .i64 0] from (k42_mkM _ _ _ (⟨0, 1, 0⟩ : S42) )) (Reps.none _ _))); intro v105 w5 ho6 hb hg_ hnew_; clear hg_ hnew_; (first | rw [← Ny104.out] at ho6 | (simp only [Int.reduceToNat] at ho6; rw [← Ny104.out] at ho6)); have n0_ := ZM (Kd.R_below (ZRK HO103.out) hb); have n1_ := ZM (Kd.R_lower ho6 (ZV (ZBB HB.out))); have n2_ := ZM (ZW (ZBB HB.out) hb); clear HO103; clear HB; have HO103 := n0_; have HO106 := n1_; have HB := n2_; clear n0_ n1_ n2_; clear hb ho6; obtain ⟨Ao7, co7, eo7⟩ := Kd.R_slice HO106.out; subst eo7; obtain ⟨Ao8, co8, eo8⟩ := Kd.R_slice HO103.out; subst eo8) | ((with_reducible refine gate_callee (f := 14) rfl ?_); refine goesL_ (some 10) rfl rfl Tryd.func14 (by kernel_rfl) rfl #[.agg #[.slice Ao8 y101.length co8, .slice Ao7 y104.length co7]] rfl ZH ?_; (with_reducible refine (gcode_Put.calls _ _ y101 _ _ y104 t107 t110 _ ?side1 ?side2 ?side3 ?side4 A1.out).mono ?_); (case side1 => repeat (first | exact (Kd.R_reads' HO103.out).2.2 | (with_reducible refine Kd.C_alloc ?_ _) | (with_reducible refine Kd.C_drewN ?_ _) | (with_reducible refine Kd.C_drew ?_))); (case side2 => exact (Kd.R_reads' HO103.out).2.1); (case side3 => repeat (first | exact (Kd.R_reads' HO106.out).2.2 | (with_reducible refine Kd.C_alloc ?_ _) | (with_reducible refine Kd.C_drewN ?_ _) | (with_reducible refine Kd.C_drew ?_))); (case side4 => exact (Kd.R_reads' HO106.out).2.1); rintro e w9 ⟨v108, rfl, ho0, hb⟩; refine ⟨_, rfl, ?_⟩; have n0_ := ZM (Kd.R_below (ZRK HO103.out) hb); have n1_ := ZM (Kd.R_below (ZRK HO106.out) hb); have n2_ := ZM (Kd.R_lower ho0 (ZV (ZBB HB.out))); have n3_ := ZM (ZW (ZBB HB.out) hb); clear HO103; clear HO106; clear HB; have HO103 := n0_; have HO106 := n1_; have HO109 := n2_; have HB := n3_; clear n0_ n1_ n2_ n3_; (try clear hb); (try clear hb2); (try clear hk); (try clear hi); (try clear ho0); have hcv10 := own_string (P := Tryd.prog) Tryd.underlying22 Tryd.underlying5 Tryd.underlying9 (Kd.own_of_R HO109.out)))
  go_ret
  exact ⟨ZEE, ZBB HB.out⟩
 ·rw [if_neg c2] at H
  have c2b0 : ((strOfNums t107).toList == ([77, 71, 2, 1, 0, 0, 0, 0, 0, 11, 0, 0, 0, 0, 0, 1, 0, 1, 0] : List UInt8)) = false := beq_eq_false_iff_ne.mpr c2
  have c2b1 : ((strOfNums t107).toList != ([77, 71, 2, 1, 0, 0, 0, 0, 0, 11, 0, 0, 0, 0, 0, 1, 0, 1, 0] : List UInt8)) = true := bne_iff_ne.mpr c2
  obtain rfl := Option.some.inj H
  go_enter Tryd.func8, Tryd.ntmps8
  go_wp2_with (first | ((with_reducible refine gate_dst (N := 6) rfl ?_); refine Kd.R_lit k40 _ 40 ?hg (N := 6) ?hd (xs := ([(⟨1, 0, 0, 0⟩ : S40), (⟨11, 0, 0, 0⟩ : S40)] : List (S40))) (inner := [.int .i64 1, .int .i64 0, .int .i64 0, .int .i64 0, .int .i64 11, .int .i64 0, .int .i64 0, .int .i64 0]) (ok := fun _ => True) (okp := fun _ => True) ?hr ?hp (fun _ hk => hk) trivial (Below.refl _ _) (Nat.le_refl _) (by simp) ?_; (case hd => rfl); (case hg => rfl); (case hr => first | (go_simp; done) | (go_simp; rfl)); (case hp => exact (Reps.c4 (show Kd.M k40 _ _ _ (⟨1, 0, 0, 0⟩ : S40) [.int .i64 1, .int .i64 0, .int .i64 0, .int .i64 0] from (k40_mkM _ _ _ (⟨1, 0, 0, 0⟩ : S40) )) (Reps.c4 (show Kd.M k40 _ _ _ (⟨11, 0, 0, 0⟩ : S40) [.int .i64 11, .int .i64 0, .int .i64 0, .int .i64 0] from (k40_mkM _ _ _ (⟨11, 0, 0, 0⟩ : S40) )) (Reps.none _ _)))); intro v102 w11 ho12 hb hg_ hnew_; clear hg_ hnew_; (first | rw [← Ny101.out] at ho12 | (simp only [Int.reduceToNat] at ho12; rw [← Ny101.out] at ho12)); have n0_ := ZM (Kd.R_lower ho12 (ZV (ZBB HB.out))); have n1_ := ZM (ZW (ZBB HB.out) hb); clear HB; have HO103 := n0_; have HB := n1_; clear n0_ n1_; clear hb ho12) | ((with_reducible refine gate_dst (N := 8) rfl ?_); refine Kd.R_lit k42 _ 42 ?hg (N := 8) ?hd (xs := ([(⟨0, 1, 0⟩ : S42)] : List (S42))) (inner := [.int .i64 0, .int .i64 1, .int .i64 0]) (ok := fun _ => True) (okp := fun _ => True) ?hr ?hp (fun _ hk => hk) trivial (Below.refl _ _) (Nat.le_refl _) (by simp) ?_; (case hd => rfl); (case hg => rfl); (case hr => first | (go_simp; done) | (go_simp; rfl)); (case hp => exact (Reps.c3 (show Kd.M k42 _ _ _ (⟨0, 1, 0⟩ : S42) [.int .i64 0, .int .i64 1, .int .i64 0] from (k42_mkM _ _ _ (⟨0, 1, 0⟩ : S42) )) (Reps.none _ _))); intro v105 w13 ho14 hb hg_ hnew_; clear hg_ hnew_; (first | rw [← Ny104.out] at ho14 | (simp only [Int.reduceToNat] at ho14; rw [← Ny104.out] at ho14)); have n0_ := ZM (Kd.R_below (ZRK HO103.out) hb); have n1_ := ZM (Kd.R_lower ho14 (ZV (ZBB HB.out))); have n2_ := ZM (ZW (ZBB HB.out) hb); clear HO103; clear HB; have HO103 := n0_; have HO106 := n1_; have HB := n2_; clear n0_ n1_ n2_; clear hb ho14; obtain ⟨Ao15, co15, eo15⟩ := Kd.R_slice HO106.out; subst eo15; obtain ⟨Ao16, co16, eo16⟩ := Kd.R_slice HO103.out; subst eo16) | ((with_reducible refine gate_callee (f := 14) rfl ?_); refine goesL_ (some 10) rfl rfl Tryd.func14 (by kernel_rfl) rfl #[.agg #[.slice Ao16 y101.length co16, .slice Ao15 y104.length co15]] rfl ZH ?_; (with_reducible refine (gcode_Put.calls _ _ y101 _ _ y104 t107 t110 _ ?side1 ?side2 ?side3 ?side4 A1.out).mono ?_); (case side1 => repeat (first | exact (Kd.R_reads' HO103.out).2.2 | (with_reducible refine Kd.C_alloc ?_ _) | (with_reducible refine Kd.C_drewN ?_ _) | (with_reducible refine Kd.C_drew ?_))); (case side2 => exact (Kd.R_reads' HO103.out).2.1); (case side3 => repeat (first | exact (Kd.R_reads' HO106.out).2.2 | (with_reducible refine Kd.C_alloc ?_ _) | (with_reducible refine Kd.C_drewN ?_ _) | (with_reducible refine Kd.C_drew ?_))); (case side4 => exact (Kd.R_reads' HO106.out).2.1); rintro e w17 ⟨v108, rfl, ho0, hb⟩; refine ⟨_, rfl, ?_⟩; have n0_ := ZM (Kd.R_below (ZRK HO103.out) hb); have n1_ := ZM (Kd.R_below (ZRK HO106.out) hb); have n2_ := ZM (Kd.R_lower ho0 (ZV (ZBB HB.out))); have n3_ := ZM (ZW (ZBB HB.out) hb); clear HO103; clear HO106; clear HB; have HO103 := n0_; have HO106 := n1_; have HO109 := n2_; have HB := n3_; clear n0_ n1_ n2_ n3_; (try clear hb); (try clear hb2); (try clear hk); (try clear hi); (try clear ho0); have hcv18 := own_string (P := Tryd.prog) Tryd.underlying22 Tryd.underlying5 Tryd.underlying9 (Kd.own_of_R HO109.out)))
  go_ret
  exact ⟨ZEE, ZBB HB.out⟩

end Go.Proofs.YtbjjcolbomaodaaDoor.PTks
