-- Laid by hprint.py of this repo: the kit's printer, and contracts by hand beside it. Not trusted: Lean checks it.
import Derived.Test.YtbjjcolbomaodaaDoorWZ
import Derived.Test.YtbjjcolbomaodaaDoorPTksx0
namespace Go.Proofs.YtbjjcolbomaodaaDoor.PTks
open Go.RowKit Go.Proofs.YtbjjcolbomaodaaDoorW.PrintWords Go.Proofs.YtbjjcolbomaodaaDoorW.PrintLast Go.Proofs.YtbjjcolbomaodaaDoorW.PrintMore
attribute [local go_sem] max2_int min2_int max_two min_two max_three min_three max_four min_four   -- for this text's walks alone
set_option linter.unusedVariables false
set_option linter.unusedSimpArgs false

/-! ### fn_small: function 74 -/
def fn_small.f (a0 : Int) (a1 : Bool) : Option (Bool) := if a0 ≥ (-1000) then (if a0 ≤ 1000 then (if a1 = true then (some (decide (a0 ≥ 1))) else (some true)) else (some false)) else (some false)
set_option maxHeartbeats 8000000 in
set_option maxRecDepth 100000 in
theorem fn_small.calls (a0 : Int) (a1 : Bool) (r : Bool) (w : World) (h : fn_small.f a0 a1 = some r) :
  Calls Tryd.prog 74 #[.int .i64 a0, .bool a1] w fun e w' => e = .returned (.bool r) ∧ Drawn0 w w' := by
 have H : (if a0 ≥ (-1000) then (if a0 ≤ 1000 then (if a1 = true then (some (decide (a0 ≥ 1))) else (some true)) else (some false)) else (some false)) = some r := h
 clear h
 by_cases c3 : a0 ≥ (-1000)
 ·rw [if_pos c3] at H
  have c3b0 : decide ((-1000) ≤ a0) = true := decide_eq_true c3
  clear c3
  by_cases c4 : a0 ≤ 1000
  ·rw [if_pos c4] at H
   have c4b0 : decide (a0 ≤ 1000) = true := decide_eq_true c4
   clear c4
   by_cases c5 : a1 = true
   ·subst c5
    have H1 : (some (decide (a0 ≥ 1))) = some r := by rw [if_pos rfl] at H; exact H
    clear H
    have H := H1
    clear H1
    obtain rfl := Option.some.inj H
    go_enter Tryd.func74, Tryd.ntmps74
    go_wp2
    go_ret
    exact ⟨ZE, ZD⟩
   ·replace c5 := Bool.eq_false_iff.mpr c5
    subst c5
    have H1 : (some true) = some r := by rw [if_neg (show ¬ (false = true) by decide)] at H; exact H
    clear H
    have H := H1
    clear H1
    obtain rfl := Option.some.inj H
    go_enter Tryd.func74, Tryd.ntmps74
    go_wp2
    go_ret
    exact ⟨ZE, ZD⟩
  ·rw [if_neg c4] at H
   have c4b0 : decide (a0 ≤ 1000) = false := decide_eq_false c4
   clear c4
   obtain rfl := Option.some.inj H
   go_enter Tryd.func74, Tryd.ntmps74
   go_wp2
   go_ret
   exact ⟨ZE, ZD⟩
 ·rw [if_neg c3] at H
  have c3b0 : decide ((-1000) ≤ a0) = false := decide_eq_false c3
  clear c3
  obtain rfl := Option.some.inj H
  go_enter Tryd.func74, Tryd.ntmps74
  go_wp2
  go_ret
  exact ⟨ZE, ZD⟩

/-! ### fn_MayMap: function 50 -/
def fn_MayMap.f (a0 : Int) (a1 : Int) : Option (Bool) := if a0 ≥ 1 then (if a0 ≤ 5 then ((fn_small.f a1 (a0 == 3)).bind fun t132 => (some t132)) else (some false)) else (some false)
set_option maxHeartbeats 8000000 in
set_option maxRecDepth 100000 in
theorem fn_MayMap.calls (a0 : Int) (a1 : Int) (r : Bool) (w : World) (h : fn_MayMap.f a0 a1 = some r) :
  Calls Tryd.prog 50 #[.int .i64 a0, .int .i64 a1] w fun e w' => e = .returned (.bool r) ∧ Drawn0 w w' := by
 have H : (if a0 ≥ 1 then (if a0 ≤ 5 then ((fn_small.f a1 (a0 == 3)).bind fun t132 => (some t132)) else (some false)) else (some false)) = some r := h
 clear h
 by_cases c3 : a0 ≥ 1
 ·rw [if_pos c3] at H
  have c3b0 : decide (1 ≤ a0) = true := decide_eq_true c3
  clear c3
  by_cases c4 : a0 ≤ 5
  ·rw [if_pos c4] at H
   have c4b0 : decide (a0 ≤ 5) = true := decide_eq_true c4
   clear c4
   replace H := Option.bind_eq_some_iff.mp H
   obtain ⟨t132, A50, H⟩ := H
   replace H : (some t132) = some r := H
   have A5 := ZM A50
   clear A50
   obtain rfl := Option.some.inj H
   go_enter Tryd.func50, Tryd.ntmps50
   go_wp2_with (first | (go_at_call 74; (with_reducible refine (fn_small.calls a1 (a0 == 3) t132 _ A5.out).mono ?_); rintro e w' ⟨rfl, ⟨nd, rfl⟩⟩))
   go_ret
   exact ⟨ZE, ZD⟩
  ·rw [if_neg c4] at H
   have c4b0 : decide (a0 ≤ 5) = false := decide_eq_false c4
   clear c4
   obtain rfl := Option.some.inj H
   go_enter Tryd.func50, Tryd.ntmps50
   go_wp2
   go_ret
   exact ⟨ZE, ZD⟩
 ·rw [if_neg c3] at H
  have c3b0 : decide (1 ≤ a0) = false := decide_eq_false c3
  clear c3
  obtain rfl := Option.some.inj H
  go_enter Tryd.func50, Tryd.ntmps50
  go_wp2
  go_ret
  exact ⟨ZE, ZD⟩

/-! ### fn_MayFilter: function 51 -/
def fn_MayFilter.f (a0 : Int) (a1 : Int) : Option (Bool) := if a0 ≥ 1 then (if a0 ≤ 4 then ((fn_small.f a1 (a0 == 3)).bind fun t133 => (some t133)) else (some false)) else (some false)
set_option maxHeartbeats 8000000 in
set_option maxRecDepth 100000 in
theorem fn_MayFilter.calls (a0 : Int) (a1 : Int) (r : Bool) (w : World) (h : fn_MayFilter.f a0 a1 = some r) :
  Calls Tryd.prog 51 #[.int .i64 a0, .int .i64 a1] w fun e w' => e = .returned (.bool r) ∧ Drawn0 w w' := by
 have H : (if a0 ≥ 1 then (if a0 ≤ 4 then ((fn_small.f a1 (a0 == 3)).bind fun t133 => (some t133)) else (some false)) else (some false)) = some r := h
 clear h
 by_cases c3 : a0 ≥ 1
 ·rw [if_pos c3] at H
  have c3b0 : decide (1 ≤ a0) = true := decide_eq_true c3
  clear c3
  by_cases c4 : a0 ≤ 4
  ·rw [if_pos c4] at H
   have c4b0 : decide (a0 ≤ 4) = true := decide_eq_true c4
   clear c4
   replace H := Option.bind_eq_some_iff.mp H
   obtain ⟨t133, A50, H⟩ := H
   replace H : (some t133) = some r := H
   have A5 := ZM A50
   clear A50
   obtain rfl := Option.some.inj H
   go_enter Tryd.func51, Tryd.ntmps51
   go_wp2_with (first | (go_at_call 74; (with_reducible refine (fn_small.calls a1 (a0 == 3) t133 _ A5.out).mono ?_); rintro e w' ⟨rfl, ⟨nd, rfl⟩⟩))
   go_ret
   exact ⟨ZE, ZD⟩
  ·rw [if_neg c4] at H
   have c4b0 : decide (a0 ≤ 4) = false := decide_eq_false c4
   clear c4
   obtain rfl := Option.some.inj H
   go_enter Tryd.func51, Tryd.ntmps51
   go_wp2
   go_ret
   exact ⟨ZE, ZD⟩
 ·rw [if_neg c3] at H
  have c3b0 : decide (1 ≤ a0) = false := decide_eq_false c3
  clear c3
  obtain rfl := Option.some.inj H
  go_enter Tryd.func51, Tryd.ntmps51
  go_wp2
  go_ret
  exact ⟨ZE, ZD⟩

/-! ### fn_MayReduce: function 52 -/
def fn_MayReduce.f (a0 : Int) : Option Bool := some (decide (1 ≤ a0 ∧ a0 ≤ 4))
set_option maxHeartbeats 4000000 in
set_option maxRecDepth 100000 in
theorem fn_aggregates_no (a0 : Int) (w : World) (h1 : ¬ a0 = 1) (h2 : ¬ a0 = 2) (h3 : ¬ a0 = 3) (h4 : ¬ a0 = 4) :
    Calls Tryd.prog 75 #[.int .i64 a0] w fun e w' => e = .returned (.agg #[.nilFunc, .nilFunc]) ∧ Below w.heap.size w w' := by
  have hu := Tryd.underlying96
  have HB := ZM (Below.refl w.heap.size w)
  have b1 : (a0 == 1) = false := beq_eq_false_iff_ne.mpr h1
  have b2 : (a0 == 2) = false := beq_eq_false_iff_ne.mpr h2
  have b3 : (a0 == 3) = false := beq_eq_false_iff_ne.mpr h3
  have b4 : (a0 == 4) = false := beq_eq_false_iff_ne.mpr h4
  clear h1 h2 h3 h4
  go_enter Tryd.func75, Tryd.ntmps75
  go_wp2
  refine bodyPost_ret (v := .agg #[.nilFunc, .nilFunc]) (by simp [results, Tryd.results75, go_sem]) rfl ⟨rfl, ?_⟩
  exact ZO HB.out _
set_option maxHeartbeats 4000000 in
set_option maxRecDepth 100000 in
theorem fn_aggregates_1 (w : World) :
    Calls Tryd.prog 75 #[.int .i64 1] w fun e w' => e = .returned (.agg #[.func (.func 88) #[] #[], .func (.func 89) #[] #[]]) ∧ Below w.heap.size w w' := by
  have hu := Tryd.underlying96
  have HB := ZM (Below.refl w.heap.size w)
  go_enter Tryd.func75, Tryd.ntmps75
  go_wp2
  refine bodyPost_ret (v := .agg #[.func (.func 88) #[] #[], .func (.func 89) #[] #[]]) (by simp [results, Tryd.results75, go_sem]) rfl ⟨rfl, ?_⟩
  exact ZO HB.out _
set_option maxHeartbeats 4000000 in
set_option maxRecDepth 100000 in
theorem fn_aggregates_2 (w : World) :
    Calls Tryd.prog 75 #[.int .i64 2] w fun e w' => e = .returned (.agg #[.func (.func 87) #[] #[], .func (.func 90) #[] #[]]) ∧ Below w.heap.size w w' := by
  have hu := Tryd.underlying96
  have HB := ZM (Below.refl w.heap.size w)
  go_enter Tryd.func75, Tryd.ntmps75
  go_wp2
  refine bodyPost_ret (v := .agg #[.func (.func 87) #[] #[], .func (.func 90) #[] #[]]) (by simp [results, Tryd.results75, go_sem]) rfl ⟨rfl, ?_⟩
  exact ZO HB.out _
set_option maxHeartbeats 4000000 in
set_option maxRecDepth 100000 in
theorem fn_aggregates_3 (w : World) :
    Calls Tryd.prog 75 #[.int .i64 3] w fun e w' => e = .returned (.agg #[.func (.func 87) #[] #[], .func (.func 91) #[] #[]]) ∧ Below w.heap.size w w' := by
  have hu := Tryd.underlying96
  have HB := ZM (Below.refl w.heap.size w)
  go_enter Tryd.func75, Tryd.ntmps75
  go_wp2
  refine bodyPost_ret (v := .agg #[.func (.func 87) #[] #[], .func (.func 91) #[] #[]]) (by simp [results, Tryd.results75, go_sem]) rfl ⟨rfl, ?_⟩
  exact ZO HB.out _
set_option maxHeartbeats 4000000 in
set_option maxRecDepth 100000 in
theorem fn_aggregates_4 (w : World) :
    Calls Tryd.prog 75 #[.int .i64 4] w fun e w' => e = .returned (.agg #[.func (.func 87) #[] #[], .func (.func 92) #[] #[]]) ∧ Below w.heap.size w w' := by
  have hu := Tryd.underlying96
  have HB := ZM (Below.refl w.heap.size w)
  go_enter Tryd.func75, Tryd.ntmps75
  go_wp2
  refine bodyPost_ret (v := .agg #[.func (.func 87) #[] #[], .func (.func 92) #[] #[]]) (by simp [results, Tryd.results75, go_sem]) rfl ⟨rfl, ?_⟩
  exact ZO HB.out _
set_option maxHeartbeats 4000000 in
set_option maxRecDepth 100000 in
theorem fn_MayReduce.calls (a0 : Int) (r : Bool) (w : World) (h : fn_MayReduce.f a0 = some r) :
    Calls Tryd.prog 52 #[.int .i64 a0] w fun e w' => e = .returned (.bool r) ∧ Below w.heap.size w w' := by
  have hr : decide (1 ≤ a0 ∧ a0 ≤ 4) = r := Option.some.inj h
  clear h
  by_cases h1 : a0 = 1
  · subst h1
    obtain rfl : r = true := by rw [← hr]; rfl
    clear hr
    have hf : ∀ w, (Instr.field 96 (.agg #[.func (.func 88) #[] #[], .func (.func 89) #[] #[]]) 1).run Tryd.prog w = .ok (.func (.func 89) #[] #[]) w := fun _ => by kernel_rfl
    have hn : ∀ w, (binOp .neq 94 (.func (.func 89) #[] #[]) .nilFunc).run Tryd.prog w = .ok (.bool true) w := fun _ => by kernel_rfl
    go_enter Tryd.func52, Tryd.ntmps52
    go_wp2_with (first | (go_at_call 75; (with_reducible refine (fn_aggregates_1 _).mono ?_); rintro e w1 ⟨rfl, hb⟩))
    go_ret
    exact ⟨rfl, hb⟩
  by_cases h2 : a0 = 2
  · subst h2
    obtain rfl : r = true := by rw [← hr]; rfl
    clear hr
    have hf : ∀ w, (Instr.field 96 (.agg #[.func (.func 87) #[] #[], .func (.func 90) #[] #[]]) 1).run Tryd.prog w = .ok (.func (.func 90) #[] #[]) w := fun _ => by kernel_rfl
    have hn : ∀ w, (binOp .neq 94 (.func (.func 90) #[] #[]) .nilFunc).run Tryd.prog w = .ok (.bool true) w := fun _ => by kernel_rfl
    go_enter Tryd.func52, Tryd.ntmps52
    go_wp2_with (first | (go_at_call 75; (with_reducible refine (fn_aggregates_2 _).mono ?_); rintro e w1 ⟨rfl, hb⟩))
    go_ret
    exact ⟨rfl, hb⟩
  by_cases h3 : a0 = 3
  · subst h3
    obtain rfl : r = true := by rw [← hr]; rfl
    clear hr
    have hf : ∀ w, (Instr.field 96 (.agg #[.func (.func 87) #[] #[], .func (.func 91) #[] #[]]) 1).run Tryd.prog w = .ok (.func (.func 91) #[] #[]) w := fun _ => by kernel_rfl
    have hn : ∀ w, (binOp .neq 94 (.func (.func 91) #[] #[]) .nilFunc).run Tryd.prog w = .ok (.bool true) w := fun _ => by kernel_rfl
    go_enter Tryd.func52, Tryd.ntmps52
    go_wp2_with (first | (go_at_call 75; (with_reducible refine (fn_aggregates_3 _).mono ?_); rintro e w1 ⟨rfl, hb⟩))
    go_ret
    exact ⟨rfl, hb⟩
  by_cases h4 : a0 = 4
  · subst h4
    obtain rfl : r = true := by rw [← hr]; rfl
    clear hr
    have hf : ∀ w, (Instr.field 96 (.agg #[.func (.func 87) #[] #[], .func (.func 92) #[] #[]]) 1).run Tryd.prog w = .ok (.func (.func 92) #[] #[]) w := fun _ => by kernel_rfl
    have hn : ∀ w, (binOp .neq 94 (.func (.func 92) #[] #[]) .nilFunc).run Tryd.prog w = .ok (.bool true) w := fun _ => by kernel_rfl
    go_enter Tryd.func52, Tryd.ntmps52
    go_wp2_with (first | (go_at_call 75; (with_reducible refine (fn_aggregates_4 _).mono ?_); rintro e w1 ⟨rfl, hb⟩))
    go_ret
    exact ⟨rfl, hb⟩
  obtain rfl : r = false := by rw [← hr]; exact decide_eq_false (by omega)
  clear hr
  have hf : ∀ w, (Instr.field 96 (.agg #[.nilFunc, .nilFunc]) 1).run Tryd.prog w = .ok (.nilFunc) w := fun _ => by kernel_rfl
  have hn : ∀ w, (binOp .neq 94 (.nilFunc) .nilFunc).run Tryd.prog w = .ok (.bool false) w := fun _ => by kernel_rfl
  go_enter Tryd.func52, Tryd.ntmps52
  go_wp2_with (first | (go_at_call 75; (with_reducible refine (fn_aggregates_no a0 _ h1 h2 h3 h4).mono ?_); rintro e w1 ⟨rfl, hb⟩))
  go_ret
  exact ⟨rfl, hb⟩

/-! ### window_within: function 76 -/
def window_within.f (a0 : Int) (a1 : Int) (a2 : Int) : Option (Bool) := if a1 ≤ a0 then (some (decide (a0 ≤ a2))) else (some false)
set_option maxHeartbeats 8000000 in
set_option maxRecDepth 100000 in
theorem window_within.calls (a0 : Int) (a1 : Int) (a2 : Int) (r : Bool) (w : World) (h : window_within.f a0 a1 a2 = some r) :
  Calls Tryd.prog 76 #[.int .i64 a0, .int .i64 a1, .int .i64 a2] w fun e w' => e = .returned (.bool r) ∧ Drawn0 w w' := by
 have H : (if a1 ≤ a0 then (some (decide (a0 ≤ a2))) else (some false)) = some r := h
 clear h
 by_cases c4 : a1 ≤ a0
 ·rw [if_pos c4] at H
  have c4b0 : decide (a1 ≤ a0) = true := decide_eq_true c4
  clear c4
  obtain rfl := Option.some.inj H
  go_enter Tryd.func76, Tryd.ntmps76
  go_wp2
  go_ret
  exact ⟨ZE, ZD⟩
 ·rw [if_neg c4] at H
  have c4b0 : decide (a1 ≤ a0) = false := decide_eq_false c4
  clear c4
  obtain rfl := Option.some.inj H
  go_enter Tryd.func76, Tryd.ntmps76
  go_wp2
  go_ret
  exact ⟨ZE, ZD⟩

/-! ### window_May: function 53 -/
def window_May.f (a0 : Int) (a1 : Int) : Option (Bool) := (window_within.f a0 1 20).bind fun t134 => (if t134 = true then ((window_within.f a1 1 a0).bind fun t135 => (some t135)) else (some false))
set_option maxHeartbeats 8000000 in
set_option maxRecDepth 100000 in
theorem window_May.calls (a0 : Int) (a1 : Int) (r : Bool) (w : World) (h : window_May.f a0 a1 = some r) :
  Calls Tryd.prog 53 #[.int .i64 a0, .int .i64 a1] w fun e w' => e = .returned (.bool r) ∧ Drawn0 w w' := by
 have H : ((window_within.f a0 1 20).bind fun t134 => (if t134 = true then ((window_within.f a1 1 a0).bind fun t135 => (some t135)) else (some false))) = some r := h
 clear h
 replace H := Option.bind_eq_some_iff.mp H
 obtain ⟨t134, A30, H⟩ := H
 replace H : (if t134 = true then ((window_within.f a1 1 a0).bind fun t135 => (some t135)) else (some false)) = some r := H
 have A3 := ZM A30
 clear A30
 by_cases c4 : t134 = true
 ·subst c4
  have H1 : ((window_within.f a1 1 a0).bind fun t135 => (some t135)) = some r := by rw [if_pos rfl] at H; exact H
  clear H
  have H := H1
  clear H1
  replace H := Option.bind_eq_some_iff.mp H
  obtain ⟨t135, A50, H⟩ := H
  replace H : (some t135) = some r := H
  have A5 := ZM A50
  clear A50
  obtain rfl := Option.some.inj H
  go_enter Tryd.func53, Tryd.ntmps53
  go_wp2_with (first | ((with_reducible refine gate_callee (f := 76) rfl ?_); refine goesL_ (some 6) rfl rfl Tryd.func76 (by kernel_rfl) rfl #[.int .i64 a0, .int .i64 1, .int .i64 20] rfl ZH ?_; (with_reducible refine (window_within.calls a0 1 20 true _ A3.out).mono ?_); rintro e w' ⟨rfl, ⟨nd, rfl⟩⟩; refine ⟨_, rfl, ?_⟩) | (go_at_call 76; (with_reducible refine (window_within.calls a1 1 a0 t135 _ A5.out).mono ?_); rintro e w' ⟨rfl, ⟨nd, rfl⟩⟩))
  go_ret
  exact ⟨ZE, ZD⟩
 ·replace c4 := Bool.eq_false_iff.mpr c4
  subst c4
  have H1 : (some false) = some r := by rw [if_neg (show ¬ (false = true) by decide)] at H; exact H
  clear H
  have H := H1
  clear H1
  obtain rfl := Option.some.inj H
  go_enter Tryd.func53, Tryd.ntmps53
  go_wp2_with (first | ((with_reducible refine gate_callee (f := 76) rfl ?_); refine goesL_ (some 6) rfl rfl Tryd.func76 (by kernel_rfl) rfl #[.int .i64 a0, .int .i64 1, .int .i64 20] rfl ZH ?_; (with_reducible refine (window_within.calls a0 1 20 false _ A3.out).mono ?_); rintro e w' ⟨rfl, ⟨nd, rfl⟩⟩; refine ⟨_, rfl, ?_⟩))
  go_ret
  exact ⟨ZE, ZD⟩

end Go.Proofs.YtbjjcolbomaodaaDoor.PTks
