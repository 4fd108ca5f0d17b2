-- Laid by hprint.py of this repo: the kit's printer, and contracts by hand beside it. Not trusted: Lean checks it.
import Derived.Test.YtgolagccgndidaaPAllx0
import Derived.Test.YtgolagccgndidaaPAllx1
namespace Go.Proofs.Ytgolagccgndidaa.PAll
open Go.RowKit Go.Proofs.YtgolagccgndidaaW.PrintWords Go.Proofs.YtgolagccgndidaaW.PrintLast Go.Proofs.YtgolagccgndidaaW.PrintMore
attribute [local go_sem] max2_int min2_int max_two min_two max_three min_three max_four min_four   -- for this text's walks alone
set_option linter.unusedVariables false
set_option linter.unusedSimpArgs false

/-! ### meanderlaw07_WindowWhole: function 8 -/
mutual
def meanderlaw07_WindowWhole.j0 : Nat → Int → Int → Int → Bool → Bool → Option (Bool)
  | 0, _, _, _, _, _ => none
  | k + 1, x0, x1, x2, x7, x26 => if x26 = true then (some x7) else ((window_First.f x1 x2).bind fun t208 => ((window_Last.f x0 x1 x2).bind fun t209 => (meanderlaw07_WindowWhole.l0 k x0 x1 x2 x7 t208 t209 (mx 0 (wrap64 (t208 - 3))))))
def meanderlaw07_WindowWhole.l0 : Nat → Int → Int → Int → Bool → Int → Int → Int → Option (Bool)
  | 0, _, _, _, _, _, _, _ => none
  | k + 1, x0, x1, x2, x7, x8, x9, x10 => if x10 ≤ (wrap64 (x9 + 3)) then ((window_Of.f k x0 x1 x10).bind fun t210 => (meanderlaw07_WindowWhole.l1 k x0 x1 x2 x7 x8 x9 x10 t210 false 0)) else (some x7)
def meanderlaw07_WindowWhole.l1 : Nat → Int → Int → Int → Bool → Int → Int → Int → List Int → Bool → Int → Option (Bool)
  | 0, _, _, _, _, _, _, _, _, _, _ => none
  | k + 1, x0, x1, x2, x7, x8, x9, x10, x11, x12, x13 => if x13 < (x11.length : Int) then (if x12 = true then (meanderlaw07_WindowWhole.l1 k x0 x1 x2 x7 x8 x9 x10 x11 true (wrap64 (x13 + 1))) else (if 0 ≤ x13 then (meanderlaw07_WindowWhole.l1 k x0 x1 x2 x7 x8 x9 x10 x11 ((rd x11 x13) == x2) (wrap64 (x13 + 1))) else (none))) else (if x10 ≥ x8 then (if (x12 != (decide (x10 ≤ x9))) = true then (some false) else (meanderlaw07_WindowWhole.l0 k x0 x1 x2 x7 x8 x9 (wrap64 (x10 + 1)))) else (if (x12 != false) = true then (some false) else (meanderlaw07_WindowWhole.l0 k x0 x1 x2 x7 x8 x9 (wrap64 (x10 + 1)))))
end
def meanderlaw07_WindowWhole.f (k : Nat) (a0 : Int) (a1 : Int) (a2 : Int) : Option (Bool) := (meanderlaw07_shown.f k).bind fun t206 => ((window_May.f a0 a1).bind fun t207 => (if t207 = true then (if a2 < 0 then (meanderlaw07_WindowWhole.j0 k a0 a1 a2 t206 true) else (meanderlaw07_WindowWhole.j0 k a0 a1 a2 t206 (decide (a2 > 9999)))) else (meanderlaw07_WindowWhole.j0 k a0 a1 a2 t206 true)))
theorem meanderlaw07_WindowWhole.mono_l : ∀ k, (∀ y0 y1 y2 y3 y4, LeO (meanderlaw07_WindowWhole.j0 k y0 y1 y2 y3 y4) (meanderlaw07_WindowWhole.j0 (k + 1) y0 y1 y2 y3 y4)) ∧ (∀ y0 y1 y2 y3 y4 y5 y6, LeO (meanderlaw07_WindowWhole.l0 k y0 y1 y2 y3 y4 y5 y6) (meanderlaw07_WindowWhole.l0 (k + 1) y0 y1 y2 y3 y4 y5 y6)) ∧ (∀ y0 y1 y2 y3 y4 y5 y6 y7 y8 y9, LeO (meanderlaw07_WindowWhole.l1 k y0 y1 y2 y3 y4 y5 y6 y7 y8 y9) (meanderlaw07_WindowWhole.l1 (k + 1) y0 y1 y2 y3 y4 y5 y6 y7 y8 y9))
  | 0 => ⟨fun _ _ _ _ _ r h => by simp [meanderlaw07_WindowWhole.j0] at h, fun _ _ _ _ _ _ _ r h => by simp [meanderlaw07_WindowWhole.l0] at h, fun _ _ _ _ _ _ _ _ _ _ r h => by simp [meanderlaw07_WindowWhole.l1] at h⟩
  | k + 1 => by
    obtain ⟨ih0, ih1, ih2⟩ := meanderlaw07_WindowWhole.mono_l k
    refine ⟨?_, ?_, ?_⟩
    · intro y0 y1 y2 y3 y4
      unfold meanderlaw07_WindowWhole.j0
      repeat' first
      | (with_reducible exact ih0 _ _ _ _ _)
      | (with_reducible exact ih1 _ _ _ _ _ _ _)
      | (with_reducible exact ih2 _ _ _ _ _ _ _ _ _ _)
      | (with_reducible exact meanderlaw07_shown.mono _)
      | (with_reducible exact window_Of.mono _ _ _ _)
      | (with_reducible exact LeO.refl _)
      | (with_reducible exact LeO.none _)
      | (with_reducible refine LeO.ite ?_ ?_)
      | (with_reducible refine LeO.bind ?_ (fun _ => ?_))
      | exact ih0 _ _ _ _ _
      | exact ih1 _ _ _ _ _ _ _
      | exact ih2 _ _ _ _ _ _ _ _ _ _
      | exact meanderlaw07_shown.mono _
      | exact window_Of.mono _ _ _ _
      | exact LeO.none _
      | refine LeO.ite ?_ ?_
      | refine LeO.bind ?_ (fun _ => ?_)
    · intro y0 y1 y2 y3 y4 y5 y6
      unfold meanderlaw07_WindowWhole.l0
      repeat' first
      | (with_reducible exact ih0 _ _ _ _ _)
      | (with_reducible exact ih1 _ _ _ _ _ _ _)
      | (with_reducible exact ih2 _ _ _ _ _ _ _ _ _ _)
      | (with_reducible exact meanderlaw07_shown.mono _)
      | (with_reducible exact window_Of.mono _ _ _ _)
      | (with_reducible exact LeO.refl _)
      | (with_reducible exact LeO.none _)
      | (with_reducible refine LeO.ite ?_ ?_)
      | (with_reducible refine LeO.bind ?_ (fun _ => ?_))
      | exact ih0 _ _ _ _ _
      | exact ih1 _ _ _ _ _ _ _
      | exact ih2 _ _ _ _ _ _ _ _ _ _
      | exact meanderlaw07_shown.mono _
      | exact window_Of.mono _ _ _ _
      | exact LeO.none _
      | refine LeO.ite ?_ ?_
      | refine LeO.bind ?_ (fun _ => ?_)
    · intro y0 y1 y2 y3 y4 y5 y6 y7 y8 y9
      unfold meanderlaw07_WindowWhole.l1
      repeat' first
      | (with_reducible exact ih0 _ _ _ _ _)
      | (with_reducible exact ih1 _ _ _ _ _ _ _)
      | (with_reducible exact ih2 _ _ _ _ _ _ _ _ _ _)
      | (with_reducible exact meanderlaw07_shown.mono _)
      | (with_reducible exact window_Of.mono _ _ _ _)
      | (with_reducible exact LeO.refl _)
      | (with_reducible exact LeO.none _)
      | (with_reducible refine LeO.ite ?_ ?_)
      | (with_reducible refine LeO.bind ?_ (fun _ => ?_))
      | exact ih0 _ _ _ _ _
      | exact ih1 _ _ _ _ _ _ _
      | exact ih2 _ _ _ _ _ _ _ _ _ _
      | exact meanderlaw07_shown.mono _
      | exact window_Of.mono _ _ _ _
      | exact LeO.none _
      | refine LeO.ite ?_ ?_
      | refine LeO.bind ?_ (fun _ => ?_)
theorem meanderlaw07_WindowWhole.mono : ∀ a0 a1 a2 k, LeO (meanderlaw07_WindowWhole.f k a0 a1 a2) (meanderlaw07_WindowWhole.f (k + 1) a0 a1 a2) := by
  intro a0 a1 a2 k
  obtain ⟨ih0, ih1, ih2⟩ := meanderlaw07_WindowWhole.mono_l k
  unfold meanderlaw07_WindowWhole.f
  repeat' first
      | (with_reducible exact ih0 _ _ _ _ _)
      | (with_reducible exact ih1 _ _ _ _ _ _ _)
      | (with_reducible exact ih2 _ _ _ _ _ _ _ _ _ _)
      | (with_reducible exact meanderlaw07_shown.mono _)
      | (with_reducible exact window_Of.mono _ _ _ _)
      | (with_reducible exact LeO.refl _)
      | (with_reducible exact LeO.none _)
      | (with_reducible refine LeO.ite ?_ ?_)
      | (with_reducible refine LeO.bind ?_ (fun _ => ?_))
      | exact ih0 _ _ _ _ _
      | exact ih1 _ _ _ _ _ _ _
      | exact ih2 _ _ _ _ _ _ _ _ _ _
      | exact meanderlaw07_shown.mono _
      | exact window_Of.mono _ _ _ _
      | exact LeO.none _
      | refine LeO.ite ?_ ?_
      | refine LeO.bind ?_ (fun _ => ?_)
set_option maxHeartbeats 8000000 in
set_option maxRecDepth 100000 in
theorem meanderlaw07_WindowWhole.calls (k : Nat) (a0 : Int) (a1 : Int) (a2 : Int) (r : Bool) (w : World) (h : meanderlaw07_WindowWhole.f k a0 a1 a2 = some r) :
    Calls Try.prog 8 #[.int .i64 a0, .int .i64 a1, .int .i64 a2] w fun e w' => e = .returned (.bool r) ∧ Below w.heap.size w w' := by
  have HB := Aside0.mk (Below.refl w.heap.size w)
  have H : ((meanderlaw07_shown.f k).bind fun t206 => ((window_May.f a0 a1).bind fun t207 => (if t207 = true then (if a2 < 0 then (meanderlaw07_WindowWhole.j0 k a0 a1 a2 t206 true) else (meanderlaw07_WindowWhole.j0 k a0 a1 a2 t206 (decide (a2 > 9999)))) else (meanderlaw07_WindowWhole.j0 k a0 a1 a2 t206 true)))) = some r := h
  clear h
  replace H := Option.bind_eq_some_iff.mp H
  obtain ⟨t206, A40, H⟩ := H
  replace H : ((window_May.f a0 a1).bind fun t207 => (if t207 = true then (if a2 < 0 then (meanderlaw07_WindowWhole.j0 k a0 a1 a2 t206 true) else (meanderlaw07_WindowWhole.j0 k a0 a1 a2 t206 (decide (a2 > 9999)))) else (meanderlaw07_WindowWhole.j0 k a0 a1 a2 t206 true))) = some r := H
  have A4 := Aside0.mk A40
  clear A40
  have HC5 := Aside0.mk H
  clear H
  go_enter Try.func8, Try.ntmps8
  go_upto_region 2 with (first | ((with_reducible refine gate_callee (f := 9) rfl ?_); refine goesL_ (some 14) rfl rfl Try.func9 (by kernel_rfl) rfl #[] rfl (by (try simp only [List.map_toArray, List.map_cons, List.map_nil]); first | done | rfl | (simp only [List.length_drop, List.length_take]; rfl)) ?_; (with_reducible refine (meanderlaw07_shown.calls k  t206 _ A4.out).mono ?_); rintro e w6 ⟨rfl, hb⟩; refine ⟨_, rfl, ?_⟩; have n0_ := Aside0.mk (below_step (by repeat (first | (with_reducible first | exact HB.out | apply below_alloc | apply pw_below_drewN | apply below_drew1) | exact HB.out)) hb); clear HB; have HB := n0_; clear n0_; (try clear hb); (try clear hb2); (try clear hk); (try clear hi)))
  (try simp only [Act.put, List.setIfInBounds_toArray, List.set_cons_zero, List.set_cons_succ])
  go_cut [26] (fun v26 wc => ∃ (kq : Nat) (x26_4 : Bool), v26 = .bool x26_4 ∧ Aside0 (meanderlaw07_WindowWhole.j0 kq a0 a1 a2 t206 x26_4 = some r) ∧ Aside0 (kq ≤ k) ∧ Aside0 (Below w.heap.size w wc))
  case first =>
    have H := HC5.out
    clear HC5
    replace H := Option.bind_eq_some_iff.mp H
    obtain ⟨t207, A70, H⟩ := H
    replace H : (if t207 = true then (if a2 < 0 then (meanderlaw07_WindowWhole.j0 k a0 a1 a2 t206 true) else (meanderlaw07_WindowWhole.j0 k a0 a1 a2 t206 (decide (a2 > 9999)))) else (meanderlaw07_WindowWhole.j0 k a0 a1 a2 t206 true)) = some r := H
    have A7 := Aside0.mk A70
    clear A70
    by_cases c8 : t207 = true
    · subst c8
      have H1 : (if a2 < 0 then (meanderlaw07_WindowWhole.j0 k a0 a1 a2 t206 true) else (meanderlaw07_WindowWhole.j0 k a0 a1 a2 t206 (decide (a2 > 9999)))) = some r := by rw [if_pos rfl] at H; exact H
      clear H
      have H := H1
      clear H1
      by_cases c9 : a2 < 0
      · rw [if_pos c9] at H
        have c9b0 : decide (a2 < 0) = true := decide_eq_true c9
        clear c9
        (first | rw [c9b0] | (simp only [i64_w, i32_w]; rw [c9b0]) | skip)
        have H' := Aside0.mk H
        clear H
        go_wp2_with (first | ((with_reducible refine gate_callee (f := 15) rfl ?_); refine goesL_ (some 17) rfl rfl Try.func15 (by kernel_rfl) rfl #[.int .i64 a0, .int .i64 a1] rfl (by (try simp only [List.map_toArray, List.map_cons, List.map_nil]); first | done | rfl | (simp only [List.length_drop, List.length_take]; rfl)) ?_; (with_reducible refine (window_May.calls a0 a1 true _ A7.out).mono ?_); rintro e w' ⟨rfl, ⟨nd, rfl⟩⟩; refine ⟨_, rfl, ?_⟩))
        go_meet
        case rel => exact ⟨_, (true), (by first | rfl | (simp; done) | (simp [*]; done)), H', ⟨by first | omega | exact Nat.le_refl _⟩, ⟨by repeat (first | (with_reducible first | exact HB.out | apply below_alloc | apply pw_below_drewN | apply below_drew1) | exact HB.out)⟩⟩
      · rw [if_neg c9] at H
        have c9b0 : decide (a2 < 0) = false := decide_eq_false c9
        clear c9
        (first | rw [c9b0] | (simp only [i64_w, i32_w]; rw [c9b0]) | skip)
        have H' := Aside0.mk H
        clear H
        go_wp2_with (first | ((with_reducible refine gate_callee (f := 15) rfl ?_); refine goesL_ (some 17) rfl rfl Try.func15 (by kernel_rfl) rfl #[.int .i64 a0, .int .i64 a1] rfl (by (try simp only [List.map_toArray, List.map_cons, List.map_nil]); first | done | rfl | (simp only [List.length_drop, List.length_take]; rfl)) ?_; (with_reducible refine (window_May.calls a0 a1 true _ A7.out).mono ?_); rintro e w' ⟨rfl, ⟨nd, rfl⟩⟩; refine ⟨_, rfl, ?_⟩))
        go_meet
        case rel => exact ⟨_, (decide (a2 > 9999)), (by first | rfl | (simp; done) | (simp [*]; done)), H', ⟨by first | omega | exact Nat.le_refl _⟩, ⟨by repeat (first | (with_reducible first | exact HB.out | apply below_alloc | apply pw_below_drewN | apply below_drew1) | exact HB.out)⟩⟩
    · replace c8 := Bool.eq_false_iff.mpr c8
      subst c8
      have H1 : (meanderlaw07_WindowWhole.j0 k a0 a1 a2 t206 true) = some r := by rw [if_neg (show ¬ (false = true) by decide)] at H; exact H
      clear H
      have H := H1
      clear H1
      have H' := Aside0.mk H
      clear H
      go_wp2_with (first | ((with_reducible refine gate_callee (f := 15) rfl ?_); refine goesL_ (some 17) rfl rfl Try.func15 (by kernel_rfl) rfl #[.int .i64 a0, .int .i64 a1] rfl (by (try simp only [List.map_toArray, List.map_cons, List.map_nil]); first | done | rfl | (simp only [List.length_drop, List.length_take]; rfl)) ?_; (with_reducible refine (window_May.calls a0 a1 false _ A7.out).mono ?_); rintro e w' ⟨rfl, ⟨nd, rfl⟩⟩; refine ⟨_, rfl, ?_⟩))
      go_meet
      case rel => exact ⟨_, (true), (by first | rfl | (simp; done) | (simp [*]; done)), H', ⟨by first | omega | exact Nat.le_refl _⟩, ⟨by repeat (first | (with_reducible first | exact HB.out | apply below_alloc | apply pw_below_drewN | apply below_drew1) | exact HB.out)⟩⟩
  case rest =>
    clear HC5
    try clear c1
    try clear p2
    try clear c8
    try clear c9
    try clear c9b0
    obtain ⟨kq, x26_4, rfl, HA, HJ4, HB⟩ := hcut
    cases kq with
    | zero => exact absurd HA.out (by simp [meanderlaw07_WindowWhole.j0])
    | succ kj4 =>
      have H := HA.out
      clear HA
      simp only [meanderlaw07_WindowWhole.j0] at H
      by_cases c10 : x26_4 = true
      · subst c10
        have H1 : (some t206) = some r := by rw [if_pos rfl] at H; exact H
        clear H
        have H := H1
        clear H1
        obtain rfl := Option.some.inj H
        go_wp2
        go_ret
        exact ⟨by first | rfl | (simp [errW_none, errW_some] <;> rfl) | (simp [*, errW_none, errW_some] <;> rfl), by repeat (first | (with_reducible first | exact HB.out | apply below_alloc | apply pw_below_drewN | apply below_drew1) | exact HB.out)⟩
      · replace c10 := Bool.eq_false_iff.mpr c10
        subst c10
        have H1 : ((window_First.f a1 a2).bind fun t208 => ((window_Last.f a0 a1 a2).bind fun t209 => (meanderlaw07_WindowWhole.l0 kj4 a0 a1 a2 t206 t208 t209 (mx 0 (wrap64 (t208 - 3)))))) = some r := by rw [if_neg (show ¬ (false = true) by decide)] at H; exact H
        clear H
        have H := H1
        clear H1
        replace H := Option.bind_eq_some_iff.mp H
        obtain ⟨t208, A110, H⟩ := H
        replace H : ((window_Last.f a0 a1 a2).bind fun t209 => (meanderlaw07_WindowWhole.l0 kj4 a0 a1 a2 t206 t208 t209 (mx 0 (wrap64 (t208 - 3))))) = some r := H
        have A11 := Aside0.mk A110
        clear A110
        replace H := Option.bind_eq_some_iff.mp H
        obtain ⟨t209, A120, H⟩ := H
        replace H : (meanderlaw07_WindowWhole.l0 kj4 a0 a1 a2 t206 t208 t209 (mx 0 (wrap64 (t208 - 3)))) = some r := H
        have A12 := Aside0.mk A120
        clear A120
        obtain ⟨ji13, hji13⟩ : ∃ j_ : Int, (mx 0 (wrap64 (t208 - 3))) = j_ := ⟨_, rfl⟩
        replace H : (meanderlaw07_WindowWhole.l0 kj4 a0 a1 a2 t206 t208 t209 ji13) = some r := by first | (rw [hji13] at H; exact H) | (simp only [hji13] at H ⊢; exact H)
        (try rw [hji13] at A11)
        (try rw [hji13] at A12)
        (try (have hji13l : 0 ≤ ji13 := by (rw [← hji13]; unfold mx; (repeat' split) <;> omega)))
        (try (have hji13m : 0 ≤ ji13 := by omega))
        have hji13_ : (if 0 < (wrap64 (t208 - 3)) then (wrap64 (t208 - 3)) else 0) = ji13 := hji13
        have H' := Aside0.mk H
        clear H
        go_wp2_with (first | ((with_reducible refine gate_callee (f := 17) rfl ?_); refine goesL_ (some 30) rfl rfl Try.func17 (by kernel_rfl) rfl #[.int .i64 a1, .int .i64 a2] rfl (by (try simp only [List.map_toArray, List.map_cons, List.map_nil]); first | done | rfl | (simp only [List.length_drop, List.length_take]; rfl)) ?_; (with_reducible refine (window_First.calls a1 a2 t208 _ A11.out).mono ?_); rintro e w' ⟨rfl, ⟨nd, rfl⟩⟩; refine ⟨_, rfl, ?_⟩) | ((with_reducible refine gate_callee (f := 19) rfl ?_); refine goesL_ (some 34) rfl rfl Try.func19 (by kernel_rfl) rfl #[.int .i64 a0, .int .i64 a1, .int .i64 a2] rfl (by (try simp only [List.map_toArray, List.map_cons, List.map_nil]); first | done | rfl | (simp only [List.length_drop, List.length_take]; rfl)) ?_; (with_reducible refine (window_Last.calls a0 a1 a2 t209 _ A12.out).mono ?_); rintro e w' ⟨rfl, ⟨nd, rfl⟩⟩; refine ⟨_, rfl, ?_⟩))
        go_loopg [10] kj4 (fun kq v10 w' => ∃ (x10_2 : Int), v10 = .int .i64 x10_2 ∧ Aside0 (meanderlaw07_WindowWhole.l0 kq a0 a1 a2 t206 t208 t209 x10_2 = some r) ∧ Aside0 (kq ≤ kj4) ∧ Aside0 (Below w.heap.size w w'))
        case atStart => exact ⟨(ji13), (by first | rfl | (simp; done) | (simp only [← hji13] <;> (first | rfl | simp)) | (simp [*]; done)), H', ⟨Nat.le_refl _⟩, ⟨by repeat (first | (with_reducible first | exact HB.out | apply below_alloc | apply pw_below_drewN | apply below_drew1) | exact HB.out)⟩⟩
        case round =>
          clear H'
          try clear c1
          try clear p2
          try clear p6
          try clear c8
          try clear c9
          try clear c9b0
          try clear c10
          try clear p2
          obtain ⟨x10_2, rfl, HA, HK2, HB⟩ := hrel
          cases gk with
          | zero => exact absurd HA.out (by simp [meanderlaw07_WindowWhole.l0])
          | succ k2 =>
            have H := HA.out
            clear HA
            simp only [meanderlaw07_WindowWhole.l0] at H
            by_cases c14 : x10_2 ≤ (wrap64 (t209 + 3))
            · rw [if_pos c14] at H
              have c14b0 : decide (x10_2 ≤ (wrap64 (t209 + 3))) = true := decide_eq_true c14
              clear c14
              replace H := Option.bind_eq_some_iff.mp H
              obtain ⟨t210, A150, H⟩ := H
              replace H : (meanderlaw07_WindowWhole.l1 k2 a0 a1 a2 t206 t208 t209 x10_2 t210 false 0) = some r := H
              have A15 := Aside0.mk A150
              clear A150
              have H' := Aside0.mk H
              clear H
              go_wp2_with (first | ((with_reducible refine gate_callee (f := 11) rfl ?_); refine goesL_ (some 47) rfl rfl Try.func11 (by kernel_rfl) rfl #[.int .i64 a0, .int .i64 a1, .int .i64 x10_2] rfl (by (try simp only [List.map_toArray, List.map_cons, List.map_nil]); first | done | rfl | (simp only [List.length_drop, List.length_take]; rfl)) ?_; (with_reducible refine (window_Of.calls k2 a0 a1 x10_2 t210 _ A15.out).mono ?_); rintro e w16 ⟨v211, rfl, ho0, hb⟩; refine ⟨_, rfl, ?_⟩; have n0_ := Aside0.mk (Kd.R_lower ho0 (below_size (by repeat (first | (with_reducible first | exact HB.out | apply below_alloc | apply pw_below_drewN | apply below_drew1) | exact HB.out)))); have n1_ := Aside0.mk (below_step (by repeat (first | (with_reducible first | exact HB.out | apply below_alloc | apply pw_below_drewN | apply below_drew1) | exact HB.out)) hb); clear HB; have HO212 := n0_; have HB := n1_; clear n0_ n1_; (try clear hb); (try clear hb2); (try clear hk); (try clear hi); (try clear ho0)))
              go_loopg [12, 13] k2 (fun kq v12 v13 w' => ∃ (x12_3 : Bool) (x13_3 : Int), v12 = .bool x12_3 ∧ v13 = .int .i64 x13_3 ∧ Aside0 (meanderlaw07_WindowWhole.l1 kq a0 a1 a2 t206 t208 t209 x10_2 t210 x12_3 x13_3 = some r) ∧ Aside0 (kq ≤ k2) ∧ Aside0 (Kd.R (Kd.int .i64) 3 w' w.heap.size (fun _ => True) v211 t210) ∧ Aside0 (Below w.heap.size w w'))
              case atStart => exact ⟨(false), (0), (by first | rfl | (simp; done) | (simp [*]; done)), (by first | rfl | (simp; done) | (simp [*]; done)), H', ⟨Nat.le_refl _⟩, ⟨by (with_reducible repeat (first | apply Kd.R_alloc | apply Kd.R_drewN | apply Kd.R_drew)); exact HO212.out⟩, ⟨by repeat (first | (with_reducible first | exact HB.out | apply below_alloc | apply pw_below_drewN | apply below_drew1) | exact HB.out)⟩⟩
              case round =>
                clear H'
                try clear c1
                try clear p2
                try clear p6
                try clear c8
                try clear c9
                try clear c9b0
                try clear c10
                try clear c11
                try clear c14
                try clear c14b0
                try clear c15
                try clear p2
                try clear p6
                obtain ⟨x12_3, x13_3, rfl, rfl, HA, HK3, HO_11, HB⟩ := hrel
                cases gk with
                | zero => exact absurd HA.out (by simp [meanderlaw07_WindowWhole.l1])
                | succ k3 =>
                  have H := HA.out
                  clear HA
                  simp only [meanderlaw07_WindowWhole.l1] at H
                  by_cases c17 : x13_3 < (t210.length : Int)
                  · rw [if_pos c17] at H
                    have c17b0 : decide (x13_3 < (t210.length : Int)) = true := decide_eq_true c17
                    clear c17
                    by_cases c18 : x12_3 = true
                    · subst c18
                      have H1 : (meanderlaw07_WindowWhole.l1 k3 a0 a1 a2 t206 t208 t209 x10_2 t210 true (wrap64 (x13_3 + 1))) = some r := by rw [if_pos rfl] at H; exact H
                      clear H
                      have H := H1
                      clear H1
                      have H' := Aside0.mk H
                      clear H
                      obtain ⟨Ao19, co19, eo19⟩ := Kd.R_slice HO_11.out
                      subst eo19
                      go_wp2
                      go_roundg k3
                      case measure => have := HJ4.out; have := HK2.out; have := HK3.out; omega
                      case rel => exact ⟨(true), (wrap64 (x13_3 + 1)), (by first | rfl | (simp; done) | (simp [*]; done)), (by first | rfl | (simp; done) | (simp [*]; done)), H', ⟨by have := HJ4.out; have := HK2.out; have := HK3.out; omega⟩, ⟨by (with_reducible repeat (first | apply Kd.R_alloc | apply Kd.R_drewN | apply Kd.R_drew)); exact HO_11.out⟩, ⟨by repeat (first | (with_reducible first | exact HB.out | apply below_alloc | apply pw_below_drewN | apply below_drew1) | exact HB.out)⟩⟩
                    · replace c18 := Bool.eq_false_iff.mpr c18
                      subst c18
                      have H1 : (if 0 ≤ x13_3 then (meanderlaw07_WindowWhole.l1 k3 a0 a1 a2 t206 t208 t209 x10_2 t210 ((rd t210 x13_3) == a2) (wrap64 (x13_3 + 1))) else (none)) = some r := by rw [if_neg (show ¬ (false = true) by decide)] at H; exact H
                      clear H
                      have H := H1
                      clear H1
                      by_cases c20 : 0 ≤ x13_3
                      · rw [if_pos c20] at H
                        have c20b0 : decide (0 ≤ x13_3) = true := decide_eq_true c20
                        clear c20
                        have H' := Aside0.mk H
                        clear H
                        obtain ⟨Ao21, co21, eo21⟩ := Kd.R_slice HO_11.out
                        subst eo21
                        have p213 : 0 ≤ (x13_3 : Int) := of_decide_eq_true (by first | (with_reducible assumption) | assumption)
                        have q213 : x13_3 < (t210.length : Int) := of_decide_eq_true (by first | (with_reducible assumption) | assumption)
                        obtain ⟨ad213, e213, hx213_0⟩ := Kd.at_int (Kd.R_reads' HO_11.out).2.2 x13_3 p213 q213
                        cases e213
                        replace p213 := eq_true p213
                        replace q213 := eq_true q213
                        go_wp2
                        go_roundg k3
                        case measure => have := HJ4.out; have := HK2.out; have := HK3.out; omega
                        case rel => exact ⟨(((rd t210 x13_3) == a2)), (wrap64 (x13_3 + 1)), (by first | rfl | (simp; done) | (simp [*]; done)), (by first | rfl | (simp; done) | (simp [*]; done)), H', ⟨by have := HJ4.out; have := HK2.out; have := HK3.out; omega⟩, ⟨by (with_reducible repeat (first | apply Kd.R_alloc | apply Kd.R_drewN | apply Kd.R_drew)); exact HO_11.out⟩, ⟨by repeat (first | (with_reducible first | exact HB.out | apply below_alloc | apply pw_below_drewN | apply below_drew1) | exact HB.out)⟩⟩
                      · rw [if_neg c20] at H
                        exact absurd H (by simp)
                  · rw [if_neg c17] at H
                    have c17b0 : decide (x13_3 < (t210.length : Int)) = false := decide_eq_false c17
                    clear c17
                    by_cases c22 : x10_2 ≥ t208
                    · rw [if_pos c22] at H
                      have c22b0 : decide (t208 ≤ x10_2) = true := decide_eq_true c22
                      clear c22
                      by_cases c23 : (x12_3 != (decide (x10_2 ≤ t209))) = true
                      · rw [if_pos c23] at H
                        have c23b0 : (x12_3 != (decide (x10_2 ≤ t209))) = true := c23
                        (try (have c23b1 : decide (x12_3 = (decide (x10_2 ≤ t209))) = false := by simpa using c23))
                        (try (have c23b2 : (x12_3 == (decide (x10_2 ≤ t209))) = false := by simpa using c23))
                        (try (have c23b3 : ¬ (x12_3 = (decide (x10_2 ≤ t209))) := by simpa using c23))
                        clear c23
                        obtain rfl := Option.some.inj H
                        obtain ⟨Ao24, co24, eo24⟩ := Kd.R_slice HO_11.out
                        subst eo24
                        go_wp2
                        go_ret
                        exact ⟨by first | rfl | (simp [errW_none, errW_some] <;> rfl) | (simp only [← hji13]; first | rfl | (simp [errW_none, errW_some] <;> rfl)) | (simp [*, errW_none, errW_some] <;> rfl), by repeat (first | (with_reducible first | exact HB.out | apply below_alloc | apply pw_below_drewN | apply below_drew1) | exact HB.out)⟩
                      · rw [if_neg c23] at H
                        have c23b0 : (x12_3 != (decide (x10_2 ≤ t209))) = false := by simpa using c23
                        (try (have c23b1 : decide (x12_3 = (decide (x10_2 ≤ t209))) = true := by simpa using c23))
                        (try (have c23b2 : (x12_3 == (decide (x10_2 ≤ t209))) = true := by simpa using c23))
                        clear c23
                        have H' := Aside0.mk H
                        clear H
                        obtain ⟨Ao25, co25, eo25⟩ := Kd.R_slice HO_11.out
                        subst eo25
                        go_wp2
                        go_roundg k3
                        case measure => have := HJ4.out; have := HK2.out; have := HK3.out; omega
                        case rel => exact ⟨(wrap64 (x10_2 + 1)), (by first | rfl | (simp; done) | (simp [*]; done)), H', ⟨by have := HJ4.out; have := HK2.out; have := HK3.out; omega⟩, ⟨by repeat (first | (with_reducible first | exact HB.out | apply below_alloc | apply pw_below_drewN | apply below_drew1) | exact HB.out)⟩⟩
                    · rw [if_neg c22] at H
                      have c22b0 : decide (t208 ≤ x10_2) = false := decide_eq_false c22
                      clear c22
                      by_cases c26 : (x12_3 != false) = true
                      · rw [if_pos c26] at H
                        have c26b0 : (x12_3 != false) = true := c26
                        (try (have c26b1 : decide (x12_3 = false) = false := by simpa using c26))
                        (try (have c26b2 : (x12_3 == false) = false := by simpa using c26))
                        (try (have c26b3 : ¬ (x12_3 = false) := by simpa using c26))
                        clear c26
                        obtain rfl := Option.some.inj H
                        obtain ⟨Ao27, co27, eo27⟩ := Kd.R_slice HO_11.out
                        subst eo27
                        go_wp2
                        go_ret
                        exact ⟨by first | rfl | (simp [errW_none, errW_some] <;> rfl) | (simp only [← hji13]; first | rfl | (simp [errW_none, errW_some] <;> rfl)) | (simp [*, errW_none, errW_some] <;> rfl), by repeat (first | (with_reducible first | exact HB.out | apply below_alloc | apply pw_below_drewN | apply below_drew1) | exact HB.out)⟩
                      · rw [if_neg c26] at H
                        have c26b0 : (x12_3 != false) = false := by simpa using c26
                        (try (have c26b1 : decide (x12_3 = false) = true := by simpa using c26))
                        (try (have c26b2 : (x12_3 == false) = true := by simpa using c26))
                        clear c26
                        have H' := Aside0.mk H
                        clear H
                        obtain ⟨Ao28, co28, eo28⟩ := Kd.R_slice HO_11.out
                        subst eo28
                        go_wp2
                        go_roundg k3
                        case measure => have := HJ4.out; have := HK2.out; have := HK3.out; omega
                        case rel => exact ⟨(wrap64 (x10_2 + 1)), (by first | rfl | (simp; done) | (simp [*]; done)), H', ⟨by have := HJ4.out; have := HK2.out; have := HK3.out; omega⟩, ⟨by repeat (first | (with_reducible first | exact HB.out | apply below_alloc | apply pw_below_drewN | apply below_drew1) | exact HB.out)⟩⟩
            · rw [if_neg c14] at H
              have c14b0 : decide (x10_2 ≤ (wrap64 (t209 + 3))) = false := decide_eq_false c14
              clear c14
              obtain rfl := Option.some.inj H
              go_wp2
              go_ret
              exact ⟨by first | rfl | (simp [errW_none, errW_some] <;> rfl) | (simp only [← hji13]; first | rfl | (simp [errW_none, errW_some] <;> rfl)) | (simp [*, errW_none, errW_some] <;> rfl), by repeat (first | (with_reducible first | exact HB.out | apply below_alloc | apply pw_below_drewN | apply below_drew1) | exact HB.out)⟩

/-- THE ONE PURE STATEMENT of meanderlaw07_WindowWhole: yours. -/
def meanderlaw07_WindowWhole.Pure : Prop := ∀ (a0 : Int) (a1 : Int) (a2 : Int), (Lit.int .i64 a0).wf = true → (Lit.int .i64 a1).wf = true → (Lit.int .i64 a2).wf = true → ∃ k, meanderlaw07_WindowWhole.f k a0 a1 a2 = some true
theorem meanderlaw07_WindowWhole.walk (P : meanderlaw07_WindowWhole.Pure) (a0 : Int) (a1 : Int) (a2 : Int) (w : World) (w0 : (Lit.int .i64 a0).wf = true) (w1 : (Lit.int .i64 a1).wf = true) (w2 : (Lit.int .i64 a2).wf = true) :
    Calls Try.prog 8 #[.int .i64 a0, .int .i64 a1, .int .i64 a2] w fun e w' => e = .returned (.bool true) ∧ Below w.heap.size w w' := by
  obtain ⟨k, h⟩ := P a0 a1 a2 w0 w1 w2
  refine (meanderlaw07_WindowWhole.calls k a0 a1 a2 true w h).mono ?_
  rintro e w' ⟨rfl, hd⟩
  exact ⟨rfl, hd⟩

end Go.Proofs.Ytgolagccgndidaa.PAll
