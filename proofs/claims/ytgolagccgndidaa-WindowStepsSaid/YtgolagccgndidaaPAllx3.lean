-- Laid by hprint.py of this repo: the kit's printer, and contracts by hand beside it. Not trusted: Lean checks it.
import Derived.Test.YtgolagccgndidaaPAllx0
import Derived.Test.YtgolagccgndidaaPAllx1
namespace Go.Proofs.Ytgolagccgndidaa.PAll
open Go.RowKit Go.Proofs.YtgolagccgndidaaW.PrintWords Go.Proofs.YtgolagccgndidaaW.PrintLast Go.Proofs.YtgolagccgndidaaW.PrintMore
attribute [local go_sem] max2_int min2_int max_two min_two max_three min_three max_four min_four   -- for this text's walks alone
set_option linter.unusedVariables false
set_option linter.unusedSimpArgs false

/-! ### meanderlaw07_WindowSteps: function 6 -/
mutual
def meanderlaw07_WindowSteps.j0 : Nat → Int → Int → Int → Bool → Bool → Option (Bool)
  | 0, _, _, _, _, _ => none
  | k + 1, x0, x1, x2, x7, x24 => if x24 = true then (some x7) else ((window_Of.f k x0 x1 x2).bind fun t177 => ((window_Of.f k x0 x1 (wrap64 (x2 + x1))).bind fun t180 => (if (wrap64 ((t180.length : Int) - (t177.length : Int))) < 0 then (meanderlaw07_WindowSteps.j1 k x7 t177 t180 (wrap64 ((t180.length : Int) - (t177.length : Int))) true) else (if (wrap64 ((t180.length : Int) - (t177.length : Int))) > 1 then (meanderlaw07_WindowSteps.j1 k x7 t177 t180 (wrap64 ((t180.length : Int) - (t177.length : Int))) true) else (if (wrap64 ((t180.length : Int) - (t177.length : Int))) = 1 then (if 0 < (t180.length : Int) then (meanderlaw07_WindowSteps.j1 k x7 t177 t180 (wrap64 ((t180.length : Int) - (t177.length : Int))) ((rd t180 0) != 0)) else (none)) else (meanderlaw07_WindowSteps.j1 k x7 t177 t180 (wrap64 ((t180.length : Int) - (t177.length : Int))) false))))))
def meanderlaw07_WindowSteps.j1 : Nat → Bool → List Int → List Int → Int → Bool → Option (Bool)
  | 0, _, _, _, _, _ => none
  | k + 1, x7, x8, x9, x10, x56 => if x56 = true then (some false) else (meanderlaw07_WindowSteps.l0 k x7 x8 x9 x10 0)
def meanderlaw07_WindowSteps.l0 : Nat → Bool → List Int → List Int → Int → Int → Option (Bool)
  | 0, _, _, _, _, _ => none
  | k + 1, x7, x8, x9, x10, x11 => if x11 < (x8.length : Int) then (if 0 ≤ (wrap64 (x11 + x10)) then (if (wrap64 (x11 + x10)) < (x9.length : Int) then (if 0 ≤ x11 then (if (rd x9 (wrap64 (x11 + x10))) = (wrap64 ((rd x8 x11) + 1)) then (meanderlaw07_WindowSteps.l0 k x7 x8 x9 x10 (wrap64 (x11 + 1))) else (some false)) else (none)) else (none)) else (none)) else (some x7)
end
def meanderlaw07_WindowSteps.f (k : Nat) (a0 : Int) (a1 : Int) (a2 : Int) : Option (Bool) := (meanderlaw07_shown.f k).bind fun t175 => ((window_May.f a0 a1).bind fun t176 => (if t176 = true then (if a2 < 0 then (meanderlaw07_WindowSteps.j0 k a0 a1 a2 t175 true) else (meanderlaw07_WindowSteps.j0 k a0 a1 a2 t175 (decide (a2 ≥ 524288)))) else (meanderlaw07_WindowSteps.j0 k a0 a1 a2 t175 true)))
theorem meanderlaw07_WindowSteps.mono_l : ∀ k, (∀ y0 y1 y2 y3 y4, LeO (meanderlaw07_WindowSteps.j0 k y0 y1 y2 y3 y4) (meanderlaw07_WindowSteps.j0 (k + 1) y0 y1 y2 y3 y4)) ∧ (∀ y0 y1 y2 y3 y4, LeO (meanderlaw07_WindowSteps.j1 k y0 y1 y2 y3 y4) (meanderlaw07_WindowSteps.j1 (k + 1) y0 y1 y2 y3 y4)) ∧ (∀ y0 y1 y2 y3 y4, LeO (meanderlaw07_WindowSteps.l0 k y0 y1 y2 y3 y4) (meanderlaw07_WindowSteps.l0 (k + 1) y0 y1 y2 y3 y4))
  | 0 => ⟨fun _ _ _ _ _ r h => by simp [meanderlaw07_WindowSteps.j0] at h, fun _ _ _ _ _ r h => by simp [meanderlaw07_WindowSteps.j1] at h, fun _ _ _ _ _ r h => by simp [meanderlaw07_WindowSteps.l0] at h⟩
  | k + 1 => by
    obtain ⟨ih0, ih1, ih2⟩ := meanderlaw07_WindowSteps.mono_l k
    refine ⟨?_, ?_, ?_⟩
    · intro y0 y1 y2 y3 y4
      unfold meanderlaw07_WindowSteps.j0
      repeat' first
      | (with_reducible exact ih0 _ _ _ _ _)
      | (with_reducible exact ih1 _ _ _ _ _)
      | (with_reducible exact ih2 _ _ _ _ _)
      | (with_reducible exact meanderlaw07_shown.mono _)
      | (with_reducible exact window_Of.mono _ _ _ _)
      | (with_reducible exact LeO.refl _)
      | (with_reducible exact LeO.none _)
      | (with_reducible refine LeO.ite ?_ ?_)
      | (with_reducible refine LeO.bind ?_ (fun _ => ?_))
      | exact ih0 _ _ _ _ _
      | exact ih1 _ _ _ _ _
      | exact ih2 _ _ _ _ _
      | exact meanderlaw07_shown.mono _
      | exact window_Of.mono _ _ _ _
      | exact LeO.none _
      | refine LeO.ite ?_ ?_
      | refine LeO.bind ?_ (fun _ => ?_)
    · intro y0 y1 y2 y3 y4
      unfold meanderlaw07_WindowSteps.j1
      repeat' first
      | (with_reducible exact ih0 _ _ _ _ _)
      | (with_reducible exact ih1 _ _ _ _ _)
      | (with_reducible exact ih2 _ _ _ _ _)
      | (with_reducible exact meanderlaw07_shown.mono _)
      | (with_reducible exact window_Of.mono _ _ _ _)
      | (with_reducible exact LeO.refl _)
      | (with_reducible exact LeO.none _)
      | (with_reducible refine LeO.ite ?_ ?_)
      | (with_reducible refine LeO.bind ?_ (fun _ => ?_))
      | exact ih0 _ _ _ _ _
      | exact ih1 _ _ _ _ _
      | exact ih2 _ _ _ _ _
      | exact meanderlaw07_shown.mono _
      | exact window_Of.mono _ _ _ _
      | exact LeO.none _
      | refine LeO.ite ?_ ?_
      | refine LeO.bind ?_ (fun _ => ?_)
    · intro y0 y1 y2 y3 y4
      unfold meanderlaw07_WindowSteps.l0
      repeat' first
      | (with_reducible exact ih0 _ _ _ _ _)
      | (with_reducible exact ih1 _ _ _ _ _)
      | (with_reducible exact ih2 _ _ _ _ _)
      | (with_reducible exact meanderlaw07_shown.mono _)
      | (with_reducible exact window_Of.mono _ _ _ _)
      | (with_reducible exact LeO.refl _)
      | (with_reducible exact LeO.none _)
      | (with_reducible refine LeO.ite ?_ ?_)
      | (with_reducible refine LeO.bind ?_ (fun _ => ?_))
      | exact ih0 _ _ _ _ _
      | exact ih1 _ _ _ _ _
      | exact ih2 _ _ _ _ _
      | exact meanderlaw07_shown.mono _
      | exact window_Of.mono _ _ _ _
      | exact LeO.none _
      | refine LeO.ite ?_ ?_
      | refine LeO.bind ?_ (fun _ => ?_)
theorem meanderlaw07_WindowSteps.mono : ∀ a0 a1 a2 k, LeO (meanderlaw07_WindowSteps.f k a0 a1 a2) (meanderlaw07_WindowSteps.f (k + 1) a0 a1 a2) := by
  intro a0 a1 a2 k
  obtain ⟨ih0, ih1, ih2⟩ := meanderlaw07_WindowSteps.mono_l k
  unfold meanderlaw07_WindowSteps.f
  repeat' first
      | (with_reducible exact ih0 _ _ _ _ _)
      | (with_reducible exact ih1 _ _ _ _ _)
      | (with_reducible exact ih2 _ _ _ _ _)
      | (with_reducible exact meanderlaw07_shown.mono _)
      | (with_reducible exact window_Of.mono _ _ _ _)
      | (with_reducible exact LeO.refl _)
      | (with_reducible exact LeO.none _)
      | (with_reducible refine LeO.ite ?_ ?_)
      | (with_reducible refine LeO.bind ?_ (fun _ => ?_))
      | exact ih0 _ _ _ _ _
      | exact ih1 _ _ _ _ _
      | exact ih2 _ _ _ _ _
      | exact meanderlaw07_shown.mono _
      | exact window_Of.mono _ _ _ _
      | exact LeO.none _
      | refine LeO.ite ?_ ?_
      | refine LeO.bind ?_ (fun _ => ?_)
set_option maxHeartbeats 8000000 in
set_option maxRecDepth 100000 in
theorem meanderlaw07_WindowSteps.calls (k : Nat) (a0 : Int) (a1 : Int) (a2 : Int) (r : Bool) (w : World) (h : meanderlaw07_WindowSteps.f k a0 a1 a2 = some r) :
    Calls Try.prog 6 #[.int .i64 a0, .int .i64 a1, .int .i64 a2] w fun e w' => e = .returned (.bool r) ∧ Below w.heap.size w w' := by
  have HB := Aside0.mk (Below.refl w.heap.size w)
  have H : ((meanderlaw07_shown.f k).bind fun t175 => ((window_May.f a0 a1).bind fun t176 => (if t176 = true then (if a2 < 0 then (meanderlaw07_WindowSteps.j0 k a0 a1 a2 t175 true) else (meanderlaw07_WindowSteps.j0 k a0 a1 a2 t175 (decide (a2 ≥ 524288)))) else (meanderlaw07_WindowSteps.j0 k a0 a1 a2 t175 true)))) = some r := h
  clear h
  replace H := Option.bind_eq_some_iff.mp H
  obtain ⟨t175, A40, H⟩ := H
  replace H : ((window_May.f a0 a1).bind fun t176 => (if t176 = true then (if a2 < 0 then (meanderlaw07_WindowSteps.j0 k a0 a1 a2 t175 true) else (meanderlaw07_WindowSteps.j0 k a0 a1 a2 t175 (decide (a2 ≥ 524288)))) else (meanderlaw07_WindowSteps.j0 k a0 a1 a2 t175 true))) = some r := H
  have A4 := Aside0.mk A40
  clear A40
  have HC5 := Aside0.mk H
  clear H
  go_enter Try.func6, Try.ntmps6
  go_upto_region 2 with (first | (go_at_call 9; (with_reducible refine (meanderlaw07_shown.calls k  t175 _ A4.out).mono ?_); rintro e w6 ⟨rfl, hb⟩; have n0_ := Aside0.mk (below_step (by repeat (first | (with_reducible first | exact HB.out | apply below_alloc | apply pw_below_drewN | apply below_drew1) | exact HB.out)) hb); clear HB; have HB := n0_; clear n0_; (try clear hb); (try clear hb2); (try clear hk); (try clear hi)))
  repeat (go_quiet (first | (go_at_call 9; (with_reducible refine (meanderlaw07_shown.calls k  t175 _ A4.out).mono ?_); rintro e w6 ⟨rfl, hb⟩; have n0_ := Aside0.mk (below_step (by repeat (first | (with_reducible first | exact HB.out | apply below_alloc | apply pw_below_drewN | apply below_drew1) | exact HB.out)) hb); clear HB; have HB := n0_; clear n0_; (try clear hb); (try clear hb2); (try clear hk); (try clear hi))); go_upto_region 2 with (first | (go_at_call 9; (with_reducible refine (meanderlaw07_shown.calls k  t175 _ A4.out).mono ?_); rintro e w6 ⟨rfl, hb⟩; have n0_ := Aside0.mk (below_step (by repeat (first | (with_reducible first | exact HB.out | apply below_alloc | apply pw_below_drewN | apply below_drew1) | exact HB.out)) hb); clear HB; have HB := n0_; clear n0_; (try clear hb); (try clear hb2); (try clear hk); (try clear hi))))
  (try simp only [Act.put, List.setIfInBounds_toArray, List.set_cons_zero, List.set_cons_succ])
  go_cut [24] (fun v24 wc => ∃ (kq : Nat) (x24_4 : Bool), v24 = .bool x24_4 ∧ Aside0 (meanderlaw07_WindowSteps.j0 kq a0 a1 a2 t175 x24_4 = some r) ∧ Aside0 (kq ≤ k) ∧ Aside0 (Below w.heap.size w wc))
  case first =>
    have H := HC5.out
    clear HC5
    replace H := Option.bind_eq_some_iff.mp H
    obtain ⟨t176, A70, H⟩ := H
    replace H : (if t176 = true then (if a2 < 0 then (meanderlaw07_WindowSteps.j0 k a0 a1 a2 t175 true) else (meanderlaw07_WindowSteps.j0 k a0 a1 a2 t175 (decide (a2 ≥ 524288)))) else (meanderlaw07_WindowSteps.j0 k a0 a1 a2 t175 true)) = some r := H
    have A7 := Aside0.mk A70
    clear A70
    by_cases c8 : t176 = true
    · subst c8
      have H1 : (if a2 < 0 then (meanderlaw07_WindowSteps.j0 k a0 a1 a2 t175 true) else (meanderlaw07_WindowSteps.j0 k a0 a1 a2 t175 (decide (a2 ≥ 524288)))) = some r := by rw [if_pos rfl] at H; exact H
      clear H
      have H := H1
      clear H1
      by_cases c9 : a2 < 0
      · rw [if_pos c9] at H
        have c9b0 : decide (a2 < 0) = true := decide_eq_true c9
        clear c9
        (first | rw [c9b0] | (simp only [i64_w, i32_w]; rw [c9b0]) | skip)
        have H' := Aside0.mk H
        clear H
        go_wp2_with (first | (go_at_call 15; (with_reducible refine (window_May.calls a0 a1 true _ A7.out).mono ?_); rintro e w' ⟨rfl, ⟨nd, rfl⟩⟩; (try first | exact ⟨rfl, _, World.drewN_drewN _ _ _⟩ | exact ⟨rfl, _, Eq.trans (World.drewN_drewN _ _ _) (congrArg (World.drewN _) (Nat.add_assoc _ _ _))⟩)))
        repeat (go_quiet (first | (go_at_call 15; (with_reducible refine (window_May.calls a0 a1 true _ A7.out).mono ?_); rintro e w' ⟨rfl, ⟨nd, rfl⟩⟩; (try first | exact ⟨rfl, _, World.drewN_drewN _ _ _⟩ | exact ⟨rfl, _, Eq.trans (World.drewN_drewN _ _ _) (congrArg (World.drewN _) (Nat.add_assoc _ _ _))⟩))); try go_wp2_with (first | (go_at_call 15; (with_reducible refine (window_May.calls a0 a1 true _ A7.out).mono ?_); rintro e w' ⟨rfl, ⟨nd, rfl⟩⟩; (try first | exact ⟨rfl, _, World.drewN_drewN _ _ _⟩ | exact ⟨rfl, _, Eq.trans (World.drewN_drewN _ _ _) (congrArg (World.drewN _) (Nat.add_assoc _ _ _))⟩))))
        go_meet
        case rel => exact ⟨_, (true), (by first | rfl | (simp; done) | (simp [*]; done)), H', ⟨by first | omega | exact Nat.le_refl _⟩, ⟨by repeat (first | (with_reducible first | exact HB.out | apply below_alloc | apply pw_below_drewN | apply below_drew1) | exact HB.out)⟩⟩
      · rw [if_neg c9] at H
        have c9b0 : decide (a2 < 0) = false := decide_eq_false c9
        clear c9
        (first | rw [c9b0] | (simp only [i64_w, i32_w]; rw [c9b0]) | skip)
        have H' := Aside0.mk H
        clear H
        go_wp2_with (first | (go_at_call 15; (with_reducible refine (window_May.calls a0 a1 true _ A7.out).mono ?_); rintro e w' ⟨rfl, ⟨nd, rfl⟩⟩; (try first | exact ⟨rfl, _, World.drewN_drewN _ _ _⟩ | exact ⟨rfl, _, Eq.trans (World.drewN_drewN _ _ _) (congrArg (World.drewN _) (Nat.add_assoc _ _ _))⟩)))
        repeat (go_quiet (first | (go_at_call 15; (with_reducible refine (window_May.calls a0 a1 true _ A7.out).mono ?_); rintro e w' ⟨rfl, ⟨nd, rfl⟩⟩; (try first | exact ⟨rfl, _, World.drewN_drewN _ _ _⟩ | exact ⟨rfl, _, Eq.trans (World.drewN_drewN _ _ _) (congrArg (World.drewN _) (Nat.add_assoc _ _ _))⟩))); try go_wp2_with (first | (go_at_call 15; (with_reducible refine (window_May.calls a0 a1 true _ A7.out).mono ?_); rintro e w' ⟨rfl, ⟨nd, rfl⟩⟩; (try first | exact ⟨rfl, _, World.drewN_drewN _ _ _⟩ | exact ⟨rfl, _, Eq.trans (World.drewN_drewN _ _ _) (congrArg (World.drewN _) (Nat.add_assoc _ _ _))⟩))))
        go_meet
        case rel => exact ⟨_, (decide (a2 ≥ 524288)), (by first | rfl | (simp; done) | (simp [*]; done)), H', ⟨by first | omega | exact Nat.le_refl _⟩, ⟨by repeat (first | (with_reducible first | exact HB.out | apply below_alloc | apply pw_below_drewN | apply below_drew1) | exact HB.out)⟩⟩
    · replace c8 := Bool.eq_false_iff.mpr c8
      subst c8
      have H1 : (meanderlaw07_WindowSteps.j0 k a0 a1 a2 t175 true) = some r := by rw [if_neg (show ¬ (false = true) by decide)] at H; exact H
      clear H
      have H := H1
      clear H1
      have H' := Aside0.mk H
      clear H
      go_wp2_with (first | (go_at_call 15; (with_reducible refine (window_May.calls a0 a1 false _ A7.out).mono ?_); rintro e w' ⟨rfl, ⟨nd, rfl⟩⟩; (try first | exact ⟨rfl, _, World.drewN_drewN _ _ _⟩ | exact ⟨rfl, _, Eq.trans (World.drewN_drewN _ _ _) (congrArg (World.drewN _) (Nat.add_assoc _ _ _))⟩)))
      repeat (go_quiet (first | (go_at_call 15; (with_reducible refine (window_May.calls a0 a1 false _ A7.out).mono ?_); rintro e w' ⟨rfl, ⟨nd, rfl⟩⟩; (try first | exact ⟨rfl, _, World.drewN_drewN _ _ _⟩ | exact ⟨rfl, _, Eq.trans (World.drewN_drewN _ _ _) (congrArg (World.drewN _) (Nat.add_assoc _ _ _))⟩))); try go_wp2_with (first | (go_at_call 15; (with_reducible refine (window_May.calls a0 a1 false _ A7.out).mono ?_); rintro e w' ⟨rfl, ⟨nd, rfl⟩⟩; (try first | exact ⟨rfl, _, World.drewN_drewN _ _ _⟩ | exact ⟨rfl, _, Eq.trans (World.drewN_drewN _ _ _) (congrArg (World.drewN _) (Nat.add_assoc _ _ _))⟩))))
      go_meet
      case rel => exact ⟨_, (true), (by first | rfl | (simp; done) | (simp [*]; done)), H', ⟨by first | omega | exact Nat.le_refl _⟩, ⟨by repeat (first | (with_reducible first | exact HB.out | apply below_alloc | apply pw_below_drewN | apply below_drew1) | exact HB.out)⟩⟩
  case rest =>
    clear HC5
    try clear p2
    try clear c6
    try clear c8
    try clear c9
    try clear c9b0
    obtain ⟨kq, x24_4, rfl, HA, HJ4, HB⟩ := hcut
    cases kq with
    | zero => exact absurd HA.out (by simp [meanderlaw07_WindowSteps.j0])
    | succ kj4 =>
      have H := HA.out
      clear HA
      simp only [meanderlaw07_WindowSteps.j0] at H
      by_cases c10 : x24_4 = true
      · subst c10
        have H1 : (some t175) = some r := by rw [if_pos rfl] at H; exact H
        clear H
        have H := H1
        clear H1
        obtain rfl := Option.some.inj H
        go_wp2
        repeat (go_quiet (fail); try go_wp2)
        go_ret
        exact ⟨by first | rfl | (simp [errW_none, errW_some] <;> rfl) | (simp [*, errW_none, errW_some] <;> rfl), by repeat (first | (with_reducible first | exact HB.out | apply below_alloc | apply pw_below_drewN | apply below_drew1) | exact HB.out)⟩
      · replace c10 := Bool.eq_false_iff.mpr c10
        subst c10
        have H1 : ((window_Of.f kj4 a0 a1 a2).bind fun t177 => ((window_Of.f kj4 a0 a1 (wrap64 (a2 + a1))).bind fun t180 => (if (wrap64 ((t180.length : Int) - (t177.length : Int))) < 0 then (meanderlaw07_WindowSteps.j1 kj4 t175 t177 t180 (wrap64 ((t180.length : Int) - (t177.length : Int))) true) else (if (wrap64 ((t180.length : Int) - (t177.length : Int))) > 1 then (meanderlaw07_WindowSteps.j1 kj4 t175 t177 t180 (wrap64 ((t180.length : Int) - (t177.length : Int))) true) else (if (wrap64 ((t180.length : Int) - (t177.length : Int))) = 1 then (if 0 < (t180.length : Int) then (meanderlaw07_WindowSteps.j1 kj4 t175 t177 t180 (wrap64 ((t180.length : Int) - (t177.length : Int))) ((rd t180 0) != 0)) else (none)) else (meanderlaw07_WindowSteps.j1 kj4 t175 t177 t180 (wrap64 ((t180.length : Int) - (t177.length : Int))) false)))))) = some r := by rw [if_neg (show ¬ (false = true) by decide)] at H; exact H
        clear H
        have H := H1
        clear H1
        replace H := Option.bind_eq_some_iff.mp H
        obtain ⟨t177, A110, H⟩ := H
        replace H : ((window_Of.f kj4 a0 a1 (wrap64 (a2 + a1))).bind fun t180 => (if (wrap64 ((t180.length : Int) - (t177.length : Int))) < 0 then (meanderlaw07_WindowSteps.j1 kj4 t175 t177 t180 (wrap64 ((t180.length : Int) - (t177.length : Int))) true) else (if (wrap64 ((t180.length : Int) - (t177.length : Int))) > 1 then (meanderlaw07_WindowSteps.j1 kj4 t175 t177 t180 (wrap64 ((t180.length : Int) - (t177.length : Int))) true) else (if (wrap64 ((t180.length : Int) - (t177.length : Int))) = 1 then (if 0 < (t180.length : Int) then (meanderlaw07_WindowSteps.j1 kj4 t175 t177 t180 (wrap64 ((t180.length : Int) - (t177.length : Int))) ((rd t180 0) != 0)) else (none)) else (meanderlaw07_WindowSteps.j1 kj4 t175 t177 t180 (wrap64 ((t180.length : Int) - (t177.length : Int))) false))))) = some r := H
        have A11 := Aside0.mk A110
        clear A110
        replace H := Option.bind_eq_some_iff.mp H
        obtain ⟨t180, A120, H⟩ := H
        replace H : (if (wrap64 ((t180.length : Int) - (t177.length : Int))) < 0 then (meanderlaw07_WindowSteps.j1 kj4 t175 t177 t180 (wrap64 ((t180.length : Int) - (t177.length : Int))) true) else (if (wrap64 ((t180.length : Int) - (t177.length : Int))) > 1 then (meanderlaw07_WindowSteps.j1 kj4 t175 t177 t180 (wrap64 ((t180.length : Int) - (t177.length : Int))) true) else (if (wrap64 ((t180.length : Int) - (t177.length : Int))) = 1 then (if 0 < (t180.length : Int) then (meanderlaw07_WindowSteps.j1 kj4 t175 t177 t180 (wrap64 ((t180.length : Int) - (t177.length : Int))) ((rd t180 0) != 0)) else (none)) else (meanderlaw07_WindowSteps.j1 kj4 t175 t177 t180 (wrap64 ((t180.length : Int) - (t177.length : Int))) false)))) = some r := H
        have A12 := Aside0.mk A120
        clear A120
        have HC13 := Aside0.mk H
        clear H
        go_upto_region 7 with (first | (go_at_call 11; (with_reducible refine (window_Of.calls kj4 a0 a1 a2 t177 _ A11.out).mono ?_); rintro e w14 ⟨v178, rfl, ho0, hb⟩; have n0_ := Aside0.mk (Kd.R_lower ho0 (below_size (by repeat (first | (with_reducible first | exact HB.out | apply below_alloc | apply pw_below_drewN | apply below_drew1) | exact HB.out)))); have n1_ := Aside0.mk (below_step (by repeat (first | (with_reducible first | exact HB.out | apply below_alloc | apply pw_below_drewN | apply below_drew1) | exact HB.out)) hb); clear HB; have HO179 := n0_; have HB := n1_; clear n0_ n1_; (try clear hb); (try clear hb2); (try clear hk); (try clear hi); (try clear ho0)) | (go_at_call 11; (with_reducible refine (window_Of.calls kj4 a0 a1 (wrap64 (a2 + a1)) t180 _ A12.out).mono ?_); rintro e w15 ⟨v181, rfl, ho0, hb⟩; have n0_ := Aside0.mk (Kd.R_elder' (by (with_reducible repeat (first | apply Kd.R_alloc | apply Kd.R_drewN | apply Kd.R_drew)); exact HO179.out) (Kd.R_base ho0) hb); have n1_ := Aside0.mk (Kd.R_lower (Kd.R_new' ho0 (Kd.R_lt (by (with_reducible repeat (first | apply Kd.R_alloc | apply Kd.R_drewN | apply Kd.R_drew)); exact HO179.out))) (below_size (by repeat (first | (with_reducible first | exact HB.out | apply below_alloc | apply pw_below_drewN | apply below_drew1) | exact HB.out)))); have n2_ := Aside0.mk (below_step (by repeat (first | (with_reducible first | exact HB.out | apply below_alloc | apply pw_below_drewN | apply below_drew1) | exact HB.out)) hb); clear HO179; clear HB; have HO179 := n0_; have HO182 := n1_; have HB := n2_; clear n0_ n1_ n2_; (try clear hb); (try clear hb2); (try clear hk); (try clear hi); (try clear ho0); obtain ⟨Ao16, co16, eo16⟩ := Kd.R_slice HO182.out; subst eo16; obtain ⟨Ao17, co17, eo17⟩ := Kd.R_slice HO179.out; subst eo17))
        repeat (go_quiet (first | (go_at_call 11; (with_reducible refine (window_Of.calls kj4 a0 a1 a2 t177 _ A11.out).mono ?_); rintro e w14 ⟨v178, rfl, ho0, hb⟩; have n0_ := Aside0.mk (Kd.R_lower ho0 (below_size (by repeat (first | (with_reducible first | exact HB.out | apply below_alloc | apply pw_below_drewN | apply below_drew1) | exact HB.out)))); have n1_ := Aside0.mk (below_step (by repeat (first | (with_reducible first | exact HB.out | apply below_alloc | apply pw_below_drewN | apply below_drew1) | exact HB.out)) hb); clear HB; have HO179 := n0_; have HB := n1_; clear n0_ n1_; (try clear hb); (try clear hb2); (try clear hk); (try clear hi); (try clear ho0)) | (go_at_call 11; (with_reducible refine (window_Of.calls kj4 a0 a1 (wrap64 (a2 + a1)) t180 _ A12.out).mono ?_); rintro e w15 ⟨v181, rfl, ho0, hb⟩; have n0_ := Aside0.mk (Kd.R_elder' (by (with_reducible repeat (first | apply Kd.R_alloc | apply Kd.R_drewN | apply Kd.R_drew)); exact HO179.out) (Kd.R_base ho0) hb); have n1_ := Aside0.mk (Kd.R_lower (Kd.R_new' ho0 (Kd.R_lt (by (with_reducible repeat (first | apply Kd.R_alloc | apply Kd.R_drewN | apply Kd.R_drew)); exact HO179.out))) (below_size (by repeat (first | (with_reducible first | exact HB.out | apply below_alloc | apply pw_below_drewN | apply below_drew1) | exact HB.out)))); have n2_ := Aside0.mk (below_step (by repeat (first | (with_reducible first | exact HB.out | apply below_alloc | apply pw_below_drewN | apply below_drew1) | exact HB.out)) hb); clear HO179; clear HB; have HO179 := n0_; have HO182 := n1_; have HB := n2_; clear n0_ n1_ n2_; (try clear hb); (try clear hb2); (try clear hk); (try clear hi); (try clear ho0); obtain ⟨Ao16, co16, eo16⟩ := Kd.R_slice HO182.out; subst eo16; obtain ⟨Ao17, co17, eo17⟩ := Kd.R_slice HO179.out; subst eo17)); go_upto_region 7 with (first | (go_at_call 11; (with_reducible refine (window_Of.calls kj4 a0 a1 a2 t177 _ A11.out).mono ?_); rintro e w14 ⟨v178, rfl, ho0, hb⟩; have n0_ := Aside0.mk (Kd.R_lower ho0 (below_size (by repeat (first | (with_reducible first | exact HB.out | apply below_alloc | apply pw_below_drewN | apply below_drew1) | exact HB.out)))); have n1_ := Aside0.mk (below_step (by repeat (first | (with_reducible first | exact HB.out | apply below_alloc | apply pw_below_drewN | apply below_drew1) | exact HB.out)) hb); clear HB; have HO179 := n0_; have HB := n1_; clear n0_ n1_; (try clear hb); (try clear hb2); (try clear hk); (try clear hi); (try clear ho0)) | (go_at_call 11; (with_reducible refine (window_Of.calls kj4 a0 a1 (wrap64 (a2 + a1)) t180 _ A12.out).mono ?_); rintro e w15 ⟨v181, rfl, ho0, hb⟩; have n0_ := Aside0.mk (Kd.R_elder' (by (with_reducible repeat (first | apply Kd.R_alloc | apply Kd.R_drewN | apply Kd.R_drew)); exact HO179.out) (Kd.R_base ho0) hb); have n1_ := Aside0.mk (Kd.R_lower (Kd.R_new' ho0 (Kd.R_lt (by (with_reducible repeat (first | apply Kd.R_alloc | apply Kd.R_drewN | apply Kd.R_drew)); exact HO179.out))) (below_size (by repeat (first | (with_reducible first | exact HB.out | apply below_alloc | apply pw_below_drewN | apply below_drew1) | exact HB.out)))); have n2_ := Aside0.mk (below_step (by repeat (first | (with_reducible first | exact HB.out | apply below_alloc | apply pw_below_drewN | apply below_drew1) | exact HB.out)) hb); clear HO179; clear HB; have HO179 := n0_; have HO182 := n1_; have HB := n2_; clear n0_ n1_ n2_; (try clear hb); (try clear hb2); (try clear hk); (try clear hi); (try clear ho0); obtain ⟨Ao16, co16, eo16⟩ := Kd.R_slice HO182.out; subst eo16; obtain ⟨Ao17, co17, eo17⟩ := Kd.R_slice HO179.out; subst eo17)))
        (try simp only [Act.put, List.setIfInBounds_toArray, List.set_cons_zero, List.set_cons_succ])
        go_cut [56] (fun v56 wc => ∃ (kq : Nat) (x56_12 : Bool), v56 = .bool x56_12 ∧ Aside0 (meanderlaw07_WindowSteps.j1 kq t175 t177 t180 (wrap64 ((t180.length : Int) - (t177.length : Int))) x56_12 = some r) ∧ Aside0 (kq ≤ kj4) ∧ Aside0 (Kd.R (Kd.int .i64) 3 wc w.heap.size (fun k_ => some k_ ≠ ((.slice Ao16 t180.length co16) : Value).ownBlock) (.slice Ao17 t177.length co17) t177) ∧ Aside0 (Kd.R (Kd.int .i64) 3 wc w.heap.size (fun k_ => some k_ ≠ ((.slice Ao17 t177.length co17) : Value).ownBlock) (.slice Ao16 t180.length co16) t180) ∧ Aside0 (Below w.heap.size w wc))
        case first =>
          have H := HC13.out
          clear HC13
          by_cases c18 : (wrap64 ((t180.length : Int) - (t177.length : Int))) < 0
          · rw [if_pos c18] at H
            have c18b0 : decide ((wrap64 ((t180.length : Int) - (t177.length : Int))) < 0) = true := decide_eq_true c18
            clear c18
            (first | rw [c18b0] | (simp only [i64_w, i32_w]; rw [c18b0]) | skip)
            have H' := Aside0.mk H
            clear H
            go_wp2
            repeat (go_quiet (fail); try go_wp2)
            go_meet
            case rel => exact ⟨_, (true), (by first | rfl | (simp; done) | (simp [*]; done)), H', ⟨by have := HJ4.out; first | omega | exact Nat.le_refl _⟩, ⟨by (with_reducible repeat (first | apply Kd.R_alloc | apply Kd.R_drewN | apply Kd.R_drew)); exact Kd.R_mono HO179.out (fun _ hk => hk.2)⟩, ⟨by (with_reducible repeat (first | apply Kd.R_alloc | apply Kd.R_drewN | apply Kd.R_drew)); exact Kd.R_mono HO182.out (fun _ hk => hk.2)⟩, ⟨by repeat (first | (with_reducible first | exact HB.out | apply below_alloc | apply pw_below_drewN | apply below_drew1) | exact HB.out)⟩⟩
          · rw [if_neg c18] at H
            have c18b0 : decide ((wrap64 ((t180.length : Int) - (t177.length : Int))) < 0) = false := decide_eq_false c18
            clear c18
            (first | rw [c18b0] | (simp only [i64_w, i32_w]; rw [c18b0]) | skip)
            by_cases c19 : (wrap64 ((t180.length : Int) - (t177.length : Int))) > 1
            · rw [if_pos c19] at H
              have c19b0 : decide (1 < (wrap64 ((t180.length : Int) - (t177.length : Int)))) = true := decide_eq_true c19
              clear c19
              have H' := Aside0.mk H
              clear H
              go_wp2
              repeat (go_quiet (fail); try go_wp2)
              go_meet
              case rel => exact ⟨_, (true), (by first | rfl | (simp; done) | (simp [*]; done)), H', ⟨by have := HJ4.out; first | omega | exact Nat.le_refl _⟩, ⟨by (with_reducible repeat (first | apply Kd.R_alloc | apply Kd.R_drewN | apply Kd.R_drew)); exact Kd.R_mono HO179.out (fun _ hk => hk.2)⟩, ⟨by (with_reducible repeat (first | apply Kd.R_alloc | apply Kd.R_drewN | apply Kd.R_drew)); exact Kd.R_mono HO182.out (fun _ hk => hk.2)⟩, ⟨by repeat (first | (with_reducible first | exact HB.out | apply below_alloc | apply pw_below_drewN | apply below_drew1) | exact HB.out)⟩⟩
            · rw [if_neg c19] at H
              have c19b0 : decide (1 < (wrap64 ((t180.length : Int) - (t177.length : Int)))) = false := decide_eq_false c19
              clear c19
              by_cases c20 : (wrap64 ((t180.length : Int) - (t177.length : Int))) = 1
              · rw [if_pos c20] at H
                have c20b0 : ((wrap64 ((t180.length : Int) - (t177.length : Int))) == 1) = true := beq_iff_eq.mpr c20
                have c20b1 : ((wrap64 ((t180.length : Int) - (t177.length : Int))) != 1) = false := bne_eq_false_iff_eq.mpr c20
                clear c20
                by_cases c21 : 0 < (t180.length : Int)
                · rw [if_pos c21] at H
                  have c21b0 : decide (0 < (t180.length : Int)) = true := decide_eq_true c21
                  have c21b1 : decide (0 < t180.length) = true := decide_eq_true (by omega)
                  clear c21
                  have H' := Aside0.mk H
                  clear H
                  have p183 : 0 ≤ (0 : Int) := (by omega)
                  have q183 : 0 < (t180.length : Int) := of_decide_eq_true (by first | (with_reducible assumption) | assumption)
                  obtain ⟨ad183, e183, hx183_0⟩ := Kd.at_int (Kd.R_reads' HO182.out).2.2 0 p183 q183
                  cases e183
                  have qi183 : (0 < t180.length) = True := eq_true (by omega)
                  (try rw [show ((0 : Int)).toNat = 0 from rfl] at hx183_0)
                  (try rw [Addr.add_zero'] at hx183_0)
                  replace p183 := eq_true p183
                  replace q183 := eq_true q183
                  go_wp2
                  repeat (go_quiet (fail); try go_wp2)
                  go_meet
                  case rel => exact ⟨_, (((rd t180 0) != 0)), (by first | rfl | (simp; done) | (simp [*]; done)), H', ⟨by have := HJ4.out; first | omega | exact Nat.le_refl _⟩, ⟨by (with_reducible repeat (first | apply Kd.R_alloc | apply Kd.R_drewN | apply Kd.R_drew)); exact Kd.R_mono HO179.out (fun _ hk => hk.2)⟩, ⟨by (with_reducible repeat (first | apply Kd.R_alloc | apply Kd.R_drewN | apply Kd.R_drew)); exact Kd.R_mono HO182.out (fun _ hk => hk.2)⟩, ⟨by repeat (first | (with_reducible first | exact HB.out | apply below_alloc | apply pw_below_drewN | apply below_drew1) | exact HB.out)⟩⟩
                · rw [if_neg c21] at H
                  exact absurd H (by simp)
              · rw [if_neg c20] at H
                have c20b0 : ((wrap64 ((t180.length : Int) - (t177.length : Int))) == 1) = false := beq_eq_false_iff_ne.mpr c20
                have c20b1 : ((wrap64 ((t180.length : Int) - (t177.length : Int))) != 1) = true := bne_iff_ne.mpr c20
                have H' := Aside0.mk H
                clear H
                go_wp2
                repeat (go_quiet (fail); try go_wp2)
                go_meet
                case rel => exact ⟨_, (false), (by first | rfl | (simp; done) | (simp [*]; done)), H', ⟨by have := HJ4.out; first | omega | exact Nat.le_refl _⟩, ⟨by (with_reducible repeat (first | apply Kd.R_alloc | apply Kd.R_drewN | apply Kd.R_drew)); exact Kd.R_mono HO179.out (fun _ hk => hk.2)⟩, ⟨by (with_reducible repeat (first | apply Kd.R_alloc | apply Kd.R_drewN | apply Kd.R_drew)); exact Kd.R_mono HO182.out (fun _ hk => hk.2)⟩, ⟨by repeat (first | (with_reducible first | exact HB.out | apply below_alloc | apply pw_below_drewN | apply below_drew1) | exact HB.out)⟩⟩
        case rest =>
          clear HC13
          try clear c1
          try clear p1
          try clear q1
          try clear hx1
          try clear qi1
          try clear c2
          try clear p2
          try clear c6
          try clear p6
          try clear c8
          try clear c9
          try clear c9b0
          try clear c10
          try clear c18
          try clear c18b0
          try clear p18
          try clear q18
          try clear hx18
          try clear qi18
          try clear c19
          try clear c19b0
          try clear c20
          try clear c20b0
          try clear c20b1
          try clear c21
          try clear c21b0
          try clear c21b1
          try clear hx183_0
          try clear p183
          try clear p2
          try clear q183
          obtain ⟨kq, x56_12, rfl, HA, HJ12, HO_8, HO_9, HB⟩ := hcut
          cases kq with
          | zero => exact absurd HA.out (by simp [meanderlaw07_WindowSteps.j1])
          | succ kj12 =>
            have H := HA.out
            clear HA
            simp only [meanderlaw07_WindowSteps.j1] at H
            by_cases c22 : x56_12 = true
            · subst c22
              have H1 : (some false) = some r := by rw [if_pos rfl] at H; exact H
              clear H
              have H := H1
              clear H1
              obtain rfl := Option.some.inj H
              go_wp2
              repeat (go_quiet (fail); try go_wp2)
              go_ret
              exact ⟨by first | rfl | (simp [errW_none, errW_some] <;> rfl) | (simp [*, errW_none, errW_some] <;> rfl), by repeat (first | (with_reducible first | exact HB.out | apply below_alloc | apply pw_below_drewN | apply below_drew1) | exact HB.out)⟩
            · replace c22 := Bool.eq_false_iff.mpr c22
              subst c22
              have H1 : (meanderlaw07_WindowSteps.l0 kj12 t175 t177 t180 (wrap64 ((t180.length : Int) - (t177.length : Int))) 0) = some r := by rw [if_neg (show ¬ (false = true) by decide)] at H; exact H
              clear H
              have H := H1
              clear H1
              have H' := Aside0.mk H
              clear H
              go_wp2
              repeat (go_quiet (fail); try go_wp2)
              go_loopg [11] kj12 (fun kq v11 w' => ∃ (x11_3 : Int), v11 = .int .i64 x11_3 ∧ Aside0 (meanderlaw07_WindowSteps.l0 kq t175 t177 t180 (wrap64 ((t180.length : Int) - (t177.length : Int))) x11_3 = some r) ∧ Aside0 (kq ≤ kj12) ∧ Aside0 (Kd.R (Kd.int .i64) 3 w' w.heap.size (fun k_ => some k_ ≠ ((.slice Ao16 t180.length co16) : Value).ownBlock) (.slice Ao17 t177.length co17) t177) ∧ Aside0 (Kd.R (Kd.int .i64) 3 w' w.heap.size (fun k_ => some k_ ≠ ((.slice Ao17 t177.length co17) : Value).ownBlock) (.slice Ao16 t180.length co16) t180) ∧ Aside0 (Below w.heap.size w w'))
              case atStart => exact ⟨(0), (by first | rfl | (simp; done) | (simp [*]; done)), H', ⟨Nat.le_refl _⟩, ⟨by (with_reducible repeat (first | apply Kd.R_alloc | apply Kd.R_drewN | apply Kd.R_drew)); exact HO_8.out⟩, ⟨by (with_reducible repeat (first | apply Kd.R_alloc | apply Kd.R_drewN | apply Kd.R_drew)); exact HO_9.out⟩, ⟨by repeat (first | (with_reducible first | exact HB.out | apply below_alloc | apply pw_below_drewN | apply below_drew1) | exact HB.out)⟩⟩
              case round =>
                clear H'
                try clear c1
                try clear p1
                try clear q1
                try clear hx1
                try clear qi1
                try clear c2
                try clear p2
                try clear c6
                try clear p6
                try clear c8
                try clear c9
                try clear c9b0
                try clear c10
                try clear c18
                try clear c18b0
                try clear p18
                try clear q18
                try clear hx18
                try clear qi18
                try clear c19
                try clear c19b0
                try clear c20
                try clear c20b0
                try clear c20b1
                try clear c21
                try clear c21b0
                try clear c21b1
                try clear c22
                try clear hx183_0
                try clear p1
                try clear p18
                try clear p183
                try clear p2
                try clear p6
                try clear q1
                try clear q18
                try clear q183
                obtain ⟨x11_3, rfl, HA, HK3, HO_8, HO_9, HB⟩ := hrel
                cases gk with
                | zero => exact absurd HA.out (by simp [meanderlaw07_WindowSteps.l0])
                | succ k3 =>
                  have H := HA.out
                  clear HA
                  simp only [meanderlaw07_WindowSteps.l0] at H
                  by_cases c23 : x11_3 < (t177.length : Int)
                  · rw [if_pos c23] at H
                    have c23b0 : decide (x11_3 < (t177.length : Int)) = true := decide_eq_true c23
                    clear c23
                    obtain ⟨ji24, hji24⟩ : ∃ j_ : Int, (wrap64 (x11_3 + (wrap64 ((t180.length : Int) - (t177.length : Int))))) = j_ := ⟨_, rfl⟩
                    replace H : (if 0 ≤ (ji24) then (if (ji24) < (t180.length : Int) then (if 0 ≤ x11_3 then (if (rd t180 (ji24)) = (wrap64 ((rd t177 x11_3) + 1)) then (meanderlaw07_WindowSteps.l0 k3 t175 t177 t180 (wrap64 ((t180.length : Int) - (t177.length : Int))) (wrap64 (x11_3 + 1))) else (some false)) else (none)) else (none)) else (none)) = some r := by first | (rw [hji24] at H; exact H) | (simp only [hji24] at H ⊢; exact H)
                    have hji24w : (IntKind.i64.wrap (x11_3 + (wrap64 ((t180.length : Int) - (t177.length : Int))))) = ji24 := (i64_w _).trans hji24
                    by_cases c25 : 0 ≤ (ji24)
                    · rw [if_pos c25] at H
                      have c25b0 : decide (0 ≤ (ji24)) = true := decide_eq_true c25
                      clear c25
                      by_cases c26 : (ji24) < (t180.length : Int)
                      · rw [if_pos c26] at H
                        have c26b0 : decide ((ji24) < (t180.length : Int)) = true := decide_eq_true c26
                        clear c26
                        by_cases c27 : 0 ≤ x11_3
                        · rw [if_pos c27] at H
                          have c27b0 : decide (0 ≤ x11_3) = true := decide_eq_true c27
                          clear c27
                          by_cases c28 : (rd t180 (ji24)) = (wrap64 ((rd t177 x11_3) + 1))
                          · rw [if_pos c28] at H
                            have c28b0 : ((rd t180 (ji24)) == (wrap64 ((rd t177 x11_3) + 1))) = true := beq_iff_eq.mpr c28
                            have c28b1 : ((rd t180 (ji24)) != (wrap64 ((rd t177 x11_3) + 1))) = false := bne_eq_false_iff_eq.mpr c28
                            clear c28
                            have H' := Aside0.mk H
                            clear H
                            have p184 : 0 ≤ ((ji24) : Int) := of_decide_eq_true (by first | (with_reducible assumption) | assumption)
                            have q184 : (ji24) < (t180.length : Int) := of_decide_eq_true (by first | (with_reducible assumption) | assumption)
                            obtain ⟨ad184, e184, hx184_0⟩ := Kd.at_int (Kd.R_reads' HO_9.out).2.2 (ji24) p184 q184
                            cases e184
                            replace p184 := eq_true p184
                            replace q184 := eq_true q184
                            have p185 : 0 ≤ (x11_3 : Int) := of_decide_eq_true (by first | (with_reducible assumption) | assumption)
                            have q185 : x11_3 < (t177.length : Int) := of_decide_eq_true (by first | (with_reducible assumption) | assumption)
                            obtain ⟨ad185, e185, hx185_0⟩ := Kd.at_int (Kd.R_reads' HO_8.out).2.2 x11_3 p185 q185
                            cases e185
                            replace p185 := eq_true p185
                            replace q185 := eq_true q185
                            go_wp2
                            repeat (go_quiet (fail); try go_wp2)
                            go_roundg k3
                            case measure => have := HJ4.out; have := HJ12.out; have := HK3.out; omega
                            case rel => exact ⟨(wrap64 (x11_3 + 1)), (by first | rfl | (simp; done) | (simp [*]; done)), H', ⟨by have := HJ4.out; have := HJ12.out; have := HK3.out; omega⟩, ⟨by (with_reducible repeat (first | apply Kd.R_alloc | apply Kd.R_drewN | apply Kd.R_drew)); exact HO_8.out⟩, ⟨by (with_reducible repeat (first | apply Kd.R_alloc | apply Kd.R_drewN | apply Kd.R_drew)); exact HO_9.out⟩, ⟨by repeat (first | (with_reducible first | exact HB.out | apply below_alloc | apply pw_below_drewN | apply below_drew1) | exact HB.out)⟩⟩
                          · rw [if_neg c28] at H
                            have c28b0 : ((rd t180 (ji24)) == (wrap64 ((rd t177 x11_3) + 1))) = false := beq_eq_false_iff_ne.mpr c28
                            have c28b1 : ((rd t180 (ji24)) != (wrap64 ((rd t177 x11_3) + 1))) = true := bne_iff_ne.mpr c28
                            obtain rfl := Option.some.inj H
                            have p184 : 0 ≤ ((ji24) : Int) := of_decide_eq_true (by first | (with_reducible assumption) | assumption)
                            have q184 : (ji24) < (t180.length : Int) := of_decide_eq_true (by first | (with_reducible assumption) | assumption)
                            obtain ⟨ad184, e184, hx184_0⟩ := Kd.at_int (Kd.R_reads' HO_9.out).2.2 (ji24) p184 q184
                            cases e184
                            replace p184 := eq_true p184
                            replace q184 := eq_true q184
                            have p185 : 0 ≤ (x11_3 : Int) := of_decide_eq_true (by first | (with_reducible assumption) | assumption)
                            have q185 : x11_3 < (t177.length : Int) := of_decide_eq_true (by first | (with_reducible assumption) | assumption)
                            obtain ⟨ad185, e185, hx185_0⟩ := Kd.at_int (Kd.R_reads' HO_8.out).2.2 x11_3 p185 q185
                            cases e185
                            replace p185 := eq_true p185
                            replace q185 := eq_true q185
                            go_wp2
                            repeat (go_quiet (fail); try go_wp2)
                            go_ret
                            exact ⟨by first | rfl | (simp [errW_none, errW_some] <;> rfl) | (simp only [← hji24]; first | rfl | (simp [errW_none, errW_some] <;> rfl)) | (simp [*, errW_none, errW_some] <;> rfl), by repeat (first | (with_reducible first | exact HB.out | apply below_alloc | apply pw_below_drewN | apply below_drew1) | exact HB.out)⟩
                        · rw [if_neg c27] at H
                          exact absurd H (by simp)
                      · rw [if_neg c26] at H
                        exact absurd H (by simp)
                    · rw [if_neg c25] at H
                      exact absurd H (by simp)
                  · rw [if_neg c23] at H
                    have c23b0 : decide (x11_3 < (t177.length : Int)) = false := decide_eq_false c23
                    clear c23
                    obtain rfl := Option.some.inj H
                    go_wp2
                    repeat (go_quiet (fail); try go_wp2)
                    go_ret
                    exact ⟨by first | rfl | (simp [errW_none, errW_some] <;> rfl) | (simp [*, errW_none, errW_some] <;> rfl), by repeat (first | (with_reducible first | exact HB.out | apply below_alloc | apply pw_below_drewN | apply below_drew1) | exact HB.out)⟩

/-- THE ONE PURE STATEMENT of meanderlaw07_WindowSteps: yours. -/
def meanderlaw07_WindowSteps.Pure : Prop := ∀ (a0 : Int) (a1 : Int) (a2 : Int), (Lit.int .i64 a0).wf = true → (Lit.int .i64 a1).wf = true → (Lit.int .i64 a2).wf = true → ∃ k, meanderlaw07_WindowSteps.f k a0 a1 a2 = some true
theorem meanderlaw07_WindowSteps.walk (P : meanderlaw07_WindowSteps.Pure) (a0 : Int) (a1 : Int) (a2 : Int) (w : World) (w0 : (Lit.int .i64 a0).wf = true) (w1 : (Lit.int .i64 a1).wf = true) (w2 : (Lit.int .i64 a2).wf = true) :
    Calls Try.prog 6 #[.int .i64 a0, .int .i64 a1, .int .i64 a2] w fun e w' => e = .returned (.bool true) ∧ Below w.heap.size w w' := by
  obtain ⟨k, h⟩ := P a0 a1 a2 w0 w1 w2
  refine (meanderlaw07_WindowSteps.calls k a0 a1 a2 true w h).mono ?_
  rintro e w' ⟨rfl, hd⟩
  exact ⟨rfl, hd⟩

end Go.Proofs.Ytgolagccgndidaa.PAll
