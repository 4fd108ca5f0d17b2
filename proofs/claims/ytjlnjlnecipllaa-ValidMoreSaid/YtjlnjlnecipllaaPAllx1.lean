-- Laid by hprint.py of this repo: the kit's printer, and contracts by hand beside it. Not trusted: Lean checks it.
import Derived.Test.YtjlnjlnecipllaaPAllx0
namespace Go.Proofs.Ytjlnjlnecipllaa.PAll
open Go.RowKit Go.Proofs.YtjlnjlnecipllaaW.PrintWords Go.Proofs.YtjlnjlnecipllaaW.PrintLast Go.Proofs.YtjlnjlnecipllaaW.PrintMore
attribute [local go_sem] max2_int min2_int max_two min_two max_three min_three max_four min_four   -- for this text's walks alone
set_option linter.unusedVariables false
set_option linter.unusedSimpArgs false

/-! ### fn_small: function 44 -/
def fn_small.f (a0 : Int) (a1 : Bool) : Option (Bool) := if a0 ≥ (-1000) then (if a0 ≤ 1000 then (if a1 = true then (some (decide (a0 ≥ 1))) else (some true)) else (some false)) else (some false)
set_option maxHeartbeats 8000000 in
set_option maxRecDepth 100000 in
theorem fn_small.calls (a0 : Int) (a1 : Bool) (r : Bool) (w : World) (h : fn_small.f a0 a1 = some r) :
  Calls Try.prog 44 #[.int .i64 a0, .bool a1] w fun e w' => e = .returned (.bool r) ∧ Drawn0 w w' := by
 have H : (if a0 ≥ (-1000) then (if a0 ≤ 1000 then (if a1 = true then (some (decide (a0 ≥ 1))) else (some true)) else (some false)) else (some false)) = some r := h
 clear h
 by_cases c3 : a0 ≥ (-1000)
 ·rw [if_pos c3] at H
  have c3b0 : decide ((-1000) ≤ a0) = true := decide_eq_true c3
  clear c3
  by_cases c4 : a0 ≤ 1000
  ·rw [if_pos c4] at H
   have c4b0 : decide (a0 ≤ 1000) = true := decide_eq_true c4
   clear c4
   by_cases c5 : a1 = true
   ·subst c5
    have H1 : (some (decide (a0 ≥ 1))) = some r := by rw [if_pos rfl] at H; exact H
    clear H
    have H := H1
    clear H1
    obtain rfl := Option.some.inj H
    go_enter Try.func44, Try.ntmps44
    go_wp2
    go_ret
    exact ⟨by first | rfl | (simp; done) | (simp [*]; done), by repeat (first | exact Drawn0.refl _ | apply Drawn0.step)⟩
   ·replace c5 := Bool.eq_false_iff.mpr c5
    subst c5
    have H1 : (some true) = some r := by rw [if_neg (show ¬ (false = true) by decide)] at H; exact H
    clear H
    have H := H1
    clear H1
    obtain rfl := Option.some.inj H
    go_enter Try.func44, Try.ntmps44
    go_wp2
    go_ret
    exact ⟨by first | rfl | (simp; done) | (simp [*]; done), by repeat (first | exact Drawn0.refl _ | apply Drawn0.step)⟩
  ·rw [if_neg c4] at H
   have c4b0 : decide (a0 ≤ 1000) = false := decide_eq_false c4
   clear c4
   obtain rfl := Option.some.inj H
   go_enter Try.func44, Try.ntmps44
   go_wp2
   go_ret
   exact ⟨by first | rfl | (simp; done) | (simp [*]; done), by repeat (first | exact Drawn0.refl _ | apply Drawn0.step)⟩
 ·rw [if_neg c3] at H
  have c3b0 : decide ((-1000) ≤ a0) = false := decide_eq_false c3
  clear c3
  obtain rfl := Option.some.inj H
  go_enter Try.func44, Try.ntmps44
  go_wp2
  go_ret
  exact ⟨by first | rfl | (simp; done) | (simp [*]; done), by repeat (first | exact Drawn0.refl _ | apply Drawn0.step)⟩

/-! ### fn_MayMap: function 22 -/
def fn_MayMap.f (a0 : Int) (a1 : Int) : Option (Bool) := if a0 ≥ 1 then (if a0 ≤ 5 then ((fn_small.f a1 (a0 == 3)).bind fun t101 => (some t101)) else (some false)) else (some false)
set_option maxHeartbeats 8000000 in
set_option maxRecDepth 100000 in
theorem fn_MayMap.calls (a0 : Int) (a1 : Int) (r : Bool) (w : World) (h : fn_MayMap.f a0 a1 = some r) :
  Calls Try.prog 22 #[.int .i64 a0, .int .i64 a1] w fun e w' => e = .returned (.bool r) ∧ Drawn0 w w' := by
 have H : (if a0 ≥ 1 then (if a0 ≤ 5 then ((fn_small.f a1 (a0 == 3)).bind fun t101 => (some t101)) else (some false)) else (some false)) = some r := h
 clear h
 by_cases c3 : a0 ≥ 1
 ·rw [if_pos c3] at H
  have c3b0 : decide (1 ≤ a0) = true := decide_eq_true c3
  clear c3
  by_cases c4 : a0 ≤ 5
  ·rw [if_pos c4] at H
   have c4b0 : decide (a0 ≤ 5) = true := decide_eq_true c4
   clear c4
   replace H := Option.bind_eq_some_iff.mp H
   obtain ⟨t101, A50, H⟩ := H
   replace H : (some t101) = some r := H
   have A5 := Aside0.mk A50
   clear A50
   obtain rfl := Option.some.inj H
   go_enter Try.func22, Try.ntmps22
   go_wp2_with (first | (go_at_call 44; (with_reducible refine (fn_small.calls a1 (a0 == 3) t101 _ A5.out).mono ?_); rintro e w' ⟨rfl, ⟨nd, rfl⟩⟩))
   go_ret
   exact ⟨by first | rfl | (simp; done) | (simp [*]; done), by repeat (first | exact Drawn0.refl _ | apply Drawn0.step)⟩
  ·rw [if_neg c4] at H
   have c4b0 : decide (a0 ≤ 5) = false := decide_eq_false c4
   clear c4
   obtain rfl := Option.some.inj H
   go_enter Try.func22, Try.ntmps22
   go_wp2
   go_ret
   exact ⟨by first | rfl | (simp; done) | (simp [*]; done), by repeat (first | exact Drawn0.refl _ | apply Drawn0.step)⟩
 ·rw [if_neg c3] at H
  have c3b0 : decide (1 ≤ a0) = false := decide_eq_false c3
  clear c3
  obtain rfl := Option.some.inj H
  go_enter Try.func22, Try.ntmps22
  go_wp2
  go_ret
  exact ⟨by first | rfl | (simp; done) | (simp [*]; done), by repeat (first | exact Drawn0.refl _ | apply Drawn0.step)⟩

/-! ### fn_MayFilter: function 23 -/
def fn_MayFilter.f (a0 : Int) (a1 : Int) : Option (Bool) := if a0 ≥ 1 then (if a0 ≤ 4 then ((fn_small.f a1 (a0 == 3)).bind fun t102 => (some t102)) else (some false)) else (some false)
set_option maxHeartbeats 8000000 in
set_option maxRecDepth 100000 in
theorem fn_MayFilter.calls (a0 : Int) (a1 : Int) (r : Bool) (w : World) (h : fn_MayFilter.f a0 a1 = some r) :
  Calls Try.prog 23 #[.int .i64 a0, .int .i64 a1] w fun e w' => e = .returned (.bool r) ∧ Drawn0 w w' := by
 have H : (if a0 ≥ 1 then (if a0 ≤ 4 then ((fn_small.f a1 (a0 == 3)).bind fun t102 => (some t102)) else (some false)) else (some false)) = some r := h
 clear h
 by_cases c3 : a0 ≥ 1
 ·rw [if_pos c3] at H
  have c3b0 : decide (1 ≤ a0) = true := decide_eq_true c3
  clear c3
  by_cases c4 : a0 ≤ 4
  ·rw [if_pos c4] at H
   have c4b0 : decide (a0 ≤ 4) = true := decide_eq_true c4
   clear c4
   replace H := Option.bind_eq_some_iff.mp H
   obtain ⟨t102, A50, H⟩ := H
   replace H : (some t102) = some r := H
   have A5 := Aside0.mk A50
   clear A50
   obtain rfl := Option.some.inj H
   go_enter Try.func23, Try.ntmps23
   go_wp2_with (first | (go_at_call 44; (with_reducible refine (fn_small.calls a1 (a0 == 3) t102 _ A5.out).mono ?_); rintro e w' ⟨rfl, ⟨nd, rfl⟩⟩))
   go_ret
   exact ⟨by first | rfl | (simp; done) | (simp [*]; done), by repeat (first | exact Drawn0.refl _ | apply Drawn0.step)⟩
  ·rw [if_neg c4] at H
   have c4b0 : decide (a0 ≤ 4) = false := decide_eq_false c4
   clear c4
   obtain rfl := Option.some.inj H
   go_enter Try.func23, Try.ntmps23
   go_wp2
   go_ret
   exact ⟨by first | rfl | (simp; done) | (simp [*]; done), by repeat (first | exact Drawn0.refl _ | apply Drawn0.step)⟩
 ·rw [if_neg c3] at H
  have c3b0 : decide (1 ≤ a0) = false := decide_eq_false c3
  clear c3
  obtain rfl := Option.some.inj H
  go_enter Try.func23, Try.ntmps23
  go_wp2
  go_ret
  exact ⟨by first | rfl | (simp; done) | (simp [*]; done), by repeat (first | exact Drawn0.refl _ | apply Drawn0.step)⟩

/-! ### fn_MayReduce: function 24 -/
def fn_MayReduce.f (a0 : Int) : Option Bool := some (decide (1 ≤ a0 ∧ a0 ≤ 4))
set_option maxHeartbeats 4000000 in
set_option maxRecDepth 100000 in
theorem fn_aggregates_no (a0 : Int) (w : World) (h1 : ¬ a0 = 1) (h2 : ¬ a0 = 2) (h3 : ¬ a0 = 3) (h4 : ¬ a0 = 4) :
    Calls Try.prog 45 #[.int .i64 a0] w fun e w' => e = .returned (.agg #[.nilFunc, .nilFunc]) ∧ Below w.heap.size w w' := by
  have hu := Try.underlying67
  have HB := Aside0.mk (Below.refl w.heap.size w)
  have b1 : (a0 == 1) = false := beq_eq_false_iff_ne.mpr h1
  have b2 : (a0 == 2) = false := beq_eq_false_iff_ne.mpr h2
  have b3 : (a0 == 3) = false := beq_eq_false_iff_ne.mpr h3
  have b4 : (a0 == 4) = false := beq_eq_false_iff_ne.mpr h4
  clear h1 h2 h3 h4
  go_enter Try.func45, Try.ntmps45
  go_wp2
  refine bodyPost_ret (v := .agg #[.nilFunc, .nilFunc]) (by simp [results, Try.results45, go_sem]) rfl ⟨rfl, ?_⟩
  exact below_alloc HB.out _
set_option maxHeartbeats 4000000 in
set_option maxRecDepth 100000 in
theorem fn_aggregates_1 (w : World) :
    Calls Try.prog 45 #[.int .i64 1] w fun e w' => e = .returned (.agg #[.func (.func 68) #[] #[], .func (.func 69) #[] #[]]) ∧ Below w.heap.size w w' := by
  have hu := Try.underlying67
  have HB := Aside0.mk (Below.refl w.heap.size w)
  go_enter Try.func45, Try.ntmps45
  go_wp2
  refine bodyPost_ret (v := .agg #[.func (.func 68) #[] #[], .func (.func 69) #[] #[]]) (by simp [results, Try.results45, go_sem]) rfl ⟨rfl, ?_⟩
  exact below_alloc HB.out _
set_option maxHeartbeats 4000000 in
set_option maxRecDepth 100000 in
theorem fn_aggregates_2 (w : World) :
    Calls Try.prog 45 #[.int .i64 2] w fun e w' => e = .returned (.agg #[.func (.func 67) #[] #[], .func (.func 70) #[] #[]]) ∧ Below w.heap.size w w' := by
  have hu := Try.underlying67
  have HB := Aside0.mk (Below.refl w.heap.size w)
  go_enter Try.func45, Try.ntmps45
  go_wp2
  refine bodyPost_ret (v := .agg #[.func (.func 67) #[] #[], .func (.func 70) #[] #[]]) (by simp [results, Try.results45, go_sem]) rfl ⟨rfl, ?_⟩
  exact below_alloc HB.out _
set_option maxHeartbeats 4000000 in
set_option maxRecDepth 100000 in
theorem fn_aggregates_3 (w : World) :
    Calls Try.prog 45 #[.int .i64 3] w fun e w' => e = .returned (.agg #[.func (.func 67) #[] #[], .func (.func 71) #[] #[]]) ∧ Below w.heap.size w w' := by
  have hu := Try.underlying67
  have HB := Aside0.mk (Below.refl w.heap.size w)
  go_enter Try.func45, Try.ntmps45
  go_wp2
  refine bodyPost_ret (v := .agg #[.func (.func 67) #[] #[], .func (.func 71) #[] #[]]) (by simp [results, Try.results45, go_sem]) rfl ⟨rfl, ?_⟩
  exact below_alloc HB.out _
set_option maxHeartbeats 4000000 in
set_option maxRecDepth 100000 in
theorem fn_aggregates_4 (w : World) :
    Calls Try.prog 45 #[.int .i64 4] w fun e w' => e = .returned (.agg #[.func (.func 67) #[] #[], .func (.func 72) #[] #[]]) ∧ Below w.heap.size w w' := by
  have hu := Try.underlying67
  have HB := Aside0.mk (Below.refl w.heap.size w)
  go_enter Try.func45, Try.ntmps45
  go_wp2
  refine bodyPost_ret (v := .agg #[.func (.func 67) #[] #[], .func (.func 72) #[] #[]]) (by simp [results, Try.results45, go_sem]) rfl ⟨rfl, ?_⟩
  exact below_alloc HB.out _
set_option maxHeartbeats 4000000 in
set_option maxRecDepth 100000 in
theorem fn_MayReduce.calls (a0 : Int) (r : Bool) (w : World) (h : fn_MayReduce.f a0 = some r) :
    Calls Try.prog 24 #[.int .i64 a0] w fun e w' => e = .returned (.bool r) ∧ Below w.heap.size w w' := by
  have hr : decide (1 ≤ a0 ∧ a0 ≤ 4) = r := Option.some.inj h
  clear h
  by_cases h1 : a0 = 1
  · subst h1
    obtain rfl : r = true := by rw [← hr]; rfl
    clear hr
    have hf : ∀ w, (Instr.field 67 (.agg #[.func (.func 68) #[] #[], .func (.func 69) #[] #[]]) 1).run Try.prog w = .ok (.func (.func 69) #[] #[]) w := fun _ => by kernel_rfl
    have hn : ∀ w, (binOp .neq 65 (.func (.func 69) #[] #[]) .nilFunc).run Try.prog w = .ok (.bool true) w := fun _ => by kernel_rfl
    go_enter Try.func24, Try.ntmps24
    go_wp2_with (first | (go_at_call 45; (with_reducible refine (fn_aggregates_1 _).mono ?_); rintro e w1 ⟨rfl, hb⟩))
    go_ret
    exact ⟨rfl, hb⟩
  by_cases h2 : a0 = 2
  · subst h2
    obtain rfl : r = true := by rw [← hr]; rfl
    clear hr
    have hf : ∀ w, (Instr.field 67 (.agg #[.func (.func 67) #[] #[], .func (.func 70) #[] #[]]) 1).run Try.prog w = .ok (.func (.func 70) #[] #[]) w := fun _ => by kernel_rfl
    have hn : ∀ w, (binOp .neq 65 (.func (.func 70) #[] #[]) .nilFunc).run Try.prog w = .ok (.bool true) w := fun _ => by kernel_rfl
    go_enter Try.func24, Try.ntmps24
    go_wp2_with (first | (go_at_call 45; (with_reducible refine (fn_aggregates_2 _).mono ?_); rintro e w1 ⟨rfl, hb⟩))
    go_ret
    exact ⟨rfl, hb⟩
  by_cases h3 : a0 = 3
  · subst h3
    obtain rfl : r = true := by rw [← hr]; rfl
    clear hr
    have hf : ∀ w, (Instr.field 67 (.agg #[.func (.func 67) #[] #[], .func (.func 71) #[] #[]]) 1).run Try.prog w = .ok (.func (.func 71) #[] #[]) w := fun _ => by kernel_rfl
    have hn : ∀ w, (binOp .neq 65 (.func (.func 71) #[] #[]) .nilFunc).run Try.prog w = .ok (.bool true) w := fun _ => by kernel_rfl
    go_enter Try.func24, Try.ntmps24
    go_wp2_with (first | (go_at_call 45; (with_reducible refine (fn_aggregates_3 _).mono ?_); rintro e w1 ⟨rfl, hb⟩))
    go_ret
    exact ⟨rfl, hb⟩
  by_cases h4 : a0 = 4
  · subst h4
    obtain rfl : r = true := by rw [← hr]; rfl
    clear hr
    have hf : ∀ w, (Instr.field 67 (.agg #[.func (.func 67) #[] #[], .func (.func 72) #[] #[]]) 1).run Try.prog w = .ok (.func (.func 72) #[] #[]) w := fun _ => by kernel_rfl
    have hn : ∀ w, (binOp .neq 65 (.func (.func 72) #[] #[]) .nilFunc).run Try.prog w = .ok (.bool true) w := fun _ => by kernel_rfl
    go_enter Try.func24, Try.ntmps24
    go_wp2_with (first | (go_at_call 45; (with_reducible refine (fn_aggregates_4 _).mono ?_); rintro e w1 ⟨rfl, hb⟩))
    go_ret
    exact ⟨rfl, hb⟩
  obtain rfl : r = false := by rw [← hr]; exact decide_eq_false (by omega)
  clear hr
  have hf : ∀ w, (Instr.field 67 (.agg #[.nilFunc, .nilFunc]) 1).run Try.prog w = .ok (.nilFunc) w := fun _ => by kernel_rfl
  have hn : ∀ w, (binOp .neq 65 (.nilFunc) .nilFunc).run Try.prog w = .ok (.bool false) w := fun _ => by kernel_rfl
  go_enter Try.func24, Try.ntmps24
  go_wp2_with (first | (go_at_call 45; (with_reducible refine (fn_aggregates_no a0 _ h1 h2 h3 h4).mono ?_); rintro e w1 ⟨rfl, hb⟩))
  go_ret
  exact ⟨rfl, hb⟩

/-! ### window_within: function 46 -/
def window_within.f (a0 : Int) (a1 : Int) (a2 : Int) : Option (Bool) := if a1 ≤ a0 then (some (decide (a0 ≤ a2))) else (some false)
set_option maxHeartbeats 8000000 in
set_option maxRecDepth 100000 in
theorem window_within.calls (a0 : Int) (a1 : Int) (a2 : Int) (r : Bool) (w : World) (h : window_within.f a0 a1 a2 = some r) :
  Calls Try.prog 46 #[.int .i64 a0, .int .i64 a1, .int .i64 a2] w fun e w' => e = .returned (.bool r) ∧ Drawn0 w w' := by
 have H : (if a1 ≤ a0 then (some (decide (a0 ≤ a2))) else (some false)) = some r := h
 clear h
 by_cases c4 : a1 ≤ a0
 ·rw [if_pos c4] at H
  have c4b0 : decide (a1 ≤ a0) = true := decide_eq_true c4
  clear c4
  obtain rfl := Option.some.inj H
  go_enter Try.func46, Try.ntmps46
  go_wp2
  go_ret
  exact ⟨by first | rfl | (simp; done) | (simp [*]; done), by repeat (first | exact Drawn0.refl _ | apply Drawn0.step)⟩
 ·rw [if_neg c4] at H
  have c4b0 : decide (a1 ≤ a0) = false := decide_eq_false c4
  clear c4
  obtain rfl := Option.some.inj H
  go_enter Try.func46, Try.ntmps46
  go_wp2
  go_ret
  exact ⟨by first | rfl | (simp; done) | (simp [*]; done), by repeat (first | exact Drawn0.refl _ | apply Drawn0.step)⟩

/-! ### window_May: function 25 -/
def window_May.f (a0 : Int) (a1 : Int) : Option (Bool) := (window_within.f a0 1 20).bind fun t103 => (if t103 = true then ((window_within.f a1 1 a0).bind fun t104 => (some t104)) else (some false))
set_option maxHeartbeats 8000000 in
set_option maxRecDepth 100000 in
theorem window_May.calls (a0 : Int) (a1 : Int) (r : Bool) (w : World) (h : window_May.f a0 a1 = some r) :
  Calls Try.prog 25 #[.int .i64 a0, .int .i64 a1] w fun e w' => e = .returned (.bool r) ∧ Drawn0 w w' := by
 have H : ((window_within.f a0 1 20).bind fun t103 => (if t103 = true then ((window_within.f a1 1 a0).bind fun t104 => (some t104)) else (some false))) = some r := h
 clear h
 replace H := Option.bind_eq_some_iff.mp H
 obtain ⟨t103, A30, H⟩ := H
 replace H : (if t103 = true then ((window_within.f a1 1 a0).bind fun t104 => (some t104)) else (some false)) = some r := H
 have A3 := Aside0.mk A30
 clear A30
 by_cases c4 : t103 = true
 ·subst c4
  have H1 : ((window_within.f a1 1 a0).bind fun t104 => (some t104)) = some r := by rw [if_pos rfl] at H; exact H
  clear H
  have H := H1
  clear H1
  replace H := Option.bind_eq_some_iff.mp H
  obtain ⟨t104, A50, H⟩ := H
  replace H : (some t104) = some r := H
  have A5 := Aside0.mk A50
  clear A50
  obtain rfl := Option.some.inj H
  go_enter Try.func25, Try.ntmps25
  go_wp2_with (first | ((with_reducible refine gate_callee (f := 46) rfl ?_); refine goesL_ (some 6) rfl rfl Try.func46 (by kernel_rfl) rfl #[.int .i64 a0, .int .i64 1, .int .i64 20] rfl (by (try simp only [List.map_toArray, List.map_cons, List.map_nil]); first | done | rfl | (simp only [List.length_drop, List.length_take]; rfl)) ?_; (with_reducible refine (window_within.calls a0 1 20 true _ A3.out).mono ?_); rintro e w' ⟨rfl, ⟨nd, rfl⟩⟩; refine ⟨_, rfl, ?_⟩) | (go_at_call 46; (with_reducible refine (window_within.calls a1 1 a0 t104 _ A5.out).mono ?_); rintro e w' ⟨rfl, ⟨nd, rfl⟩⟩))
  go_ret
  exact ⟨by first | rfl | (simp; done) | (simp [*]; done), by repeat (first | exact Drawn0.refl _ | apply Drawn0.step)⟩
 ·replace c4 := Bool.eq_false_iff.mpr c4
  subst c4
  have H1 : (some false) = some r := by rw [if_neg (show ¬ (false = true) by decide)] at H; exact H
  clear H
  have H := H1
  clear H1
  obtain rfl := Option.some.inj H
  go_enter Try.func25, Try.ntmps25
  go_wp2_with (first | ((with_reducible refine gate_callee (f := 46) rfl ?_); refine goesL_ (some 6) rfl rfl Try.func46 (by kernel_rfl) rfl #[.int .i64 a0, .int .i64 1, .int .i64 20] rfl (by (try simp only [List.map_toArray, List.map_cons, List.map_nil]); first | done | rfl | (simp only [List.length_drop, List.length_take]; rfl)) ?_; (with_reducible refine (window_within.calls a0 1 20 false _ A3.out).mono ?_); rintro e w' ⟨rfl, ⟨nd, rfl⟩⟩; refine ⟨_, rfl, ?_⟩))
  go_ret
  exact ⟨by first | rfl | (simp; done) | (simp [*]; done), by repeat (first | exact Drawn0.refl _ | apply Drawn0.step)⟩

end Go.Proofs.Ytjlnjlnecipllaa.PAll
