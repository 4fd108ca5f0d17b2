-- Laid by hprint.py of this repo: the kit's printer, and contracts by hand beside it. Not trusted: Lean checks it.
import Derived.Test.YtgolagccgndidaaPAllx0
import Derived.Test.YtgolagccgndidaaPAllx1
namespace Go.Proofs.Ytgolagccgndidaa.PAll
open Go.RowKit Go.Proofs.YtgolagccgndidaaW.PrintWords Go.Proofs.YtgolagccgndidaaW.PrintLast Go.Proofs.YtgolagccgndidaaW.PrintMore
attribute [local go_sem] max2_int min2_int max_two min_two max_three min_three max_four min_four   -- for this text's walks alone
set_option linter.unusedVariables false
set_option linter.unusedSimpArgs false

/-! ### meanderlaw07_WindowEnds: function 7 -/
mutual
def meanderlaw07_WindowEnds.j0 : Nat → Int → Int → Int → Bool → Bool → Option (Bool)
  | 0, _, _, _, _, _ => none
  | k + 1, x0, x1, x2, x7, x24 => if x24 = true then (if x7 = true then ((window_Ends.f k x0 x1 x2).bind fun t188 => (some ((t188.length : Int) == 0))) else (some false)) else ((window_Ends.f k x0 x1 x2).bind fun t191 => (meanderlaw07_WindowEnds.l0 k x0 x1 x2 x7 t191 false 0))
def meanderlaw07_WindowEnds.l0 : Nat → Int → Int → Int → Bool → List Int → Bool → Int → Option (Bool)
  | 0, _, _, _, _, _, _, _ => none
  | k + 1, x0, x1, x2, x7, x8, x9, x10 => if x10 < (x8.length : Int) then (if 0 ≤ x10 then (if (rd x8 x10) < x2 then (some false) else (if (rd x8 x10) ≥ (wrap64 (x2 + x0)) then (some false) else (if x10 > 0 then (if 0 ≤ (wrap64 (x10 - 1)) then (if (wrap64 (x10 - 1)) < (x8.length : Int) then (if (wrap64 ((rd x8 x10) - (rd x8 (wrap64 (x10 - 1))))) = x1 then (if x9 = true then (meanderlaw07_WindowEnds.l0 k x0 x1 x2 x7 x8 true (wrap64 (x10 + 1))) else (meanderlaw07_WindowEnds.l0 k x0 x1 x2 x7 x8 ((rd x8 x10) == x2) (wrap64 (x10 + 1)))) else (some false)) else (none)) else (none)) else (if x9 = true then (meanderlaw07_WindowEnds.l0 k x0 x1 x2 x7 x8 true (wrap64 (x10 + 1))) else (meanderlaw07_WindowEnds.l0 k x0 x1 x2 x7 x8 ((rd x8 x10) == x2) (wrap64 (x10 + 1))))))) else (none)) else (if (wrap64 ((wrap64 (x2 - x0)) + 1)) ≥ 0 then (if x1 = 0 then (none) else (if x7 = true then (if (x9 == ((Int.tmod (wrap64 ((wrap64 (x2 - x0)) + 1)) x1) == 0)) = true then ((window_Of.f k x0 x1 x2).bind fun t200 => (some ((x8.length : Int) == (t200.length : Int)))) else (some false)) else (some false))) else (if x7 = true then (if (x9 == false) = true then ((window_Of.f k x0 x1 x2).bind fun t203 => (some ((x8.length : Int) == (t203.length : Int)))) else (some false)) else (some false)))
end
def meanderlaw07_WindowEnds.f (k : Nat) (a0 : Int) (a1 : Int) (a2 : Int) : Option (Bool) := (meanderlaw07_shown.f k).bind fun t186 => ((window_May.f a0 a1).bind fun t187 => (if t187 = true then (if a2 < 0 then (meanderlaw07_WindowEnds.j0 k a0 a1 a2 t186 true) else (meanderlaw07_WindowEnds.j0 k a0 a1 a2 t186 (decide (a2 > 1048576)))) else (meanderlaw07_WindowEnds.j0 k a0 a1 a2 t186 true)))
theorem meanderlaw07_WindowEnds.mono_l : ∀ k, (∀ y0 y1 y2 y3 y4, LeO (meanderlaw07_WindowEnds.j0 k y0 y1 y2 y3 y4) (meanderlaw07_WindowEnds.j0 (k + 1) y0 y1 y2 y3 y4)) ∧ (∀ y0 y1 y2 y3 y4 y5 y6, LeO (meanderlaw07_WindowEnds.l0 k y0 y1 y2 y3 y4 y5 y6) (meanderlaw07_WindowEnds.l0 (k + 1) y0 y1 y2 y3 y4 y5 y6))
  | 0 => ⟨fun _ _ _ _ _ r h => by simp [meanderlaw07_WindowEnds.j0] at h, fun _ _ _ _ _ _ _ r h => by simp [meanderlaw07_WindowEnds.l0] at h⟩
  | k + 1 => by
    obtain ⟨ih0, ih1⟩ := meanderlaw07_WindowEnds.mono_l k
    refine ⟨?_, ?_⟩
    · intro y0 y1 y2 y3 y4
      unfold meanderlaw07_WindowEnds.j0
      repeat' first
      | (with_reducible exact ih0 _ _ _ _ _)
      | (with_reducible exact ih1 _ _ _ _ _ _ _)
      | (with_reducible exact meanderlaw07_shown.mono _)
      | (with_reducible exact window_Ends.mono _ _ _ _)
      | (with_reducible exact window_Of.mono _ _ _ _)
      | (with_reducible exact LeO.refl _)
      | (with_reducible exact LeO.none _)
      | (with_reducible refine LeO.ite ?_ ?_)
      | (with_reducible refine LeO.bind ?_ (fun _ => ?_))
      | exact ih0 _ _ _ _ _
      | exact ih1 _ _ _ _ _ _ _
      | exact meanderlaw07_shown.mono _
      | exact window_Ends.mono _ _ _ _
      | exact window_Of.mono _ _ _ _
      | exact LeO.none _
      | refine LeO.ite ?_ ?_
      | refine LeO.bind ?_ (fun _ => ?_)
    · intro y0 y1 y2 y3 y4 y5 y6
      unfold meanderlaw07_WindowEnds.l0
      repeat' first
      | (with_reducible exact ih0 _ _ _ _ _)
      | (with_reducible exact ih1 _ _ _ _ _ _ _)
      | (with_reducible exact meanderlaw07_shown.mono _)
      | (with_reducible exact window_Ends.mono _ _ _ _)
      | (with_reducible exact window_Of.mono _ _ _ _)
      | (with_reducible exact LeO.refl _)
      | (with_reducible exact LeO.none _)
      | (with_reducible refine LeO.ite ?_ ?_)
      | (with_reducible refine LeO.bind ?_ (fun _ => ?_))
      | exact ih0 _ _ _ _ _
      | exact ih1 _ _ _ _ _ _ _
      | exact meanderlaw07_shown.mono _
      | exact window_Ends.mono _ _ _ _
      | exact window_Of.mono _ _ _ _
      | exact LeO.none _
      | refine LeO.ite ?_ ?_
      | refine LeO.bind ?_ (fun _ => ?_)
theorem meanderlaw07_WindowEnds.mono : ∀ a0 a1 a2 k, LeO (meanderlaw07_WindowEnds.f k a0 a1 a2) (meanderlaw07_WindowEnds.f (k + 1) a0 a1 a2) := by
  intro a0 a1 a2 k
  obtain ⟨ih0, ih1⟩ := meanderlaw07_WindowEnds.mono_l k
  unfold meanderlaw07_WindowEnds.f
  repeat' first
      | (with_reducible exact ih0 _ _ _ _ _)
      | (with_reducible exact ih1 _ _ _ _ _ _ _)
      | (with_reducible exact meanderlaw07_shown.mono _)
      | (with_reducible exact window_Ends.mono _ _ _ _)
      | (with_reducible exact window_Of.mono _ _ _ _)
      | (with_reducible exact LeO.refl _)
      | (with_reducible exact LeO.none _)
      | (with_reducible refine LeO.ite ?_ ?_)
      | (with_reducible refine LeO.bind ?_ (fun _ => ?_))
      | exact ih0 _ _ _ _ _
      | exact ih1 _ _ _ _ _ _ _
      | exact meanderlaw07_shown.mono _
      | exact window_Ends.mono _ _ _ _
      | exact window_Of.mono _ _ _ _
      | exact LeO.none _
      | refine LeO.ite ?_ ?_
      | refine LeO.bind ?_ (fun _ => ?_)
set_option maxHeartbeats 8000000 in
set_option maxRecDepth 100000 in
theorem meanderlaw07_WindowEnds.calls (k : Nat) (a0 : Int) (a1 : Int) (a2 : Int) (r : Bool) (w : World) (h : meanderlaw07_WindowEnds.f k a0 a1 a2 = some r) :
    Calls Try.prog 7 #[.int .i64 a0, .int .i64 a1, .int .i64 a2] w fun e w' => e = .returned (.bool r) ∧ Below w.heap.size w w' := by
  have HB := Aside0.mk (Below.refl w.heap.size w)
  have H : ((meanderlaw07_shown.f k).bind fun t186 => ((window_May.f a0 a1).bind fun t187 => (if t187 = true then (if a2 < 0 then (meanderlaw07_WindowEnds.j0 k a0 a1 a2 t186 true) else (meanderlaw07_WindowEnds.j0 k a0 a1 a2 t186 (decide (a2 > 1048576)))) else (meanderlaw07_WindowEnds.j0 k a0 a1 a2 t186 true)))) = some r := h
  clear h
  replace H := Option.bind_eq_some_iff.mp H
  obtain ⟨t186, A40, H⟩ := H
  replace H : ((window_May.f a0 a1).bind fun t187 => (if t187 = true then (if a2 < 0 then (meanderlaw07_WindowEnds.j0 k a0 a1 a2 t186 true) else (meanderlaw07_WindowEnds.j0 k a0 a1 a2 t186 (decide (a2 > 1048576)))) else (meanderlaw07_WindowEnds.j0 k a0 a1 a2 t186 true))) = some r := H
  have A4 := Aside0.mk A40
  clear A40
  have HC5 := Aside0.mk H
  clear H
  go_enter Try.func7, Try.ntmps7
  go_upto_region 2 with (first | (go_at_call 9; (with_reducible refine (meanderlaw07_shown.calls k  t186 _ A4.out).mono ?_); rintro e w6 ⟨rfl, hb⟩; have n0_ := Aside0.mk (below_step (by repeat (first | (with_reducible first | exact HB.out | apply below_alloc | apply pw_below_drewN | apply below_drew1) | exact HB.out)) hb); clear HB; have HB := n0_; clear n0_; (try clear hb); (try clear hb2); (try clear hk); (try clear hi)))
  repeat (go_quiet (first | (go_at_call 9; (with_reducible refine (meanderlaw07_shown.calls k  t186 _ A4.out).mono ?_); rintro e w6 ⟨rfl, hb⟩; have n0_ := Aside0.mk (below_step (by repeat (first | (with_reducible first | exact HB.out | apply below_alloc | apply pw_below_drewN | apply below_drew1) | exact HB.out)) hb); clear HB; have HB := n0_; clear n0_; (try clear hb); (try clear hb2); (try clear hk); (try clear hi))); go_upto_region 2 with (first | (go_at_call 9; (with_reducible refine (meanderlaw07_shown.calls k  t186 _ A4.out).mono ?_); rintro e w6 ⟨rfl, hb⟩; have n0_ := Aside0.mk (below_step (by repeat (first | (with_reducible first | exact HB.out | apply below_alloc | apply pw_below_drewN | apply below_drew1) | exact HB.out)) hb); clear HB; have HB := n0_; clear n0_; (try clear hb); (try clear hb2); (try clear hk); (try clear hi))))
  (try simp only [Act.put, List.setIfInBounds_toArray, List.set_cons_zero, List.set_cons_succ])
  go_cut [24] (fun v24 wc => ∃ (kq : Nat) (x24_4 : Bool), v24 = .bool x24_4 ∧ Aside0 (meanderlaw07_WindowEnds.j0 kq a0 a1 a2 t186 x24_4 = some r) ∧ Aside0 (kq ≤ k) ∧ Aside0 (Below w.heap.size w wc))
  case first =>
    have H := HC5.out
    clear HC5
    replace H := Option.bind_eq_some_iff.mp H
    obtain ⟨t187, A70, H⟩ := H
    replace H : (if t187 = true then (if a2 < 0 then (meanderlaw07_WindowEnds.j0 k a0 a1 a2 t186 true) else (meanderlaw07_WindowEnds.j0 k a0 a1 a2 t186 (decide (a2 > 1048576)))) else (meanderlaw07_WindowEnds.j0 k a0 a1 a2 t186 true)) = some r := H
    have A7 := Aside0.mk A70
    clear A70
    by_cases c8 : t187 = true
    · subst c8
      have H1 : (if a2 < 0 then (meanderlaw07_WindowEnds.j0 k a0 a1 a2 t186 true) else (meanderlaw07_WindowEnds.j0 k a0 a1 a2 t186 (decide (a2 > 1048576)))) = some r := by rw [if_pos rfl] at H; exact H
      clear H
      have H := H1
      clear H1
      by_cases c9 : a2 < 0
      · rw [if_pos c9] at H
        have c9b0 : decide (a2 < 0) = true := decide_eq_true c9
        clear c9
        (first | rw [c9b0] | (simp only [i64_w, i32_w]; rw [c9b0]) | skip)
        have H' := Aside0.mk H
        clear H
        go_wp2_with (first | (go_at_call 15; (with_reducible refine (window_May.calls a0 a1 true _ A7.out).mono ?_); rintro e w' ⟨rfl, ⟨nd, rfl⟩⟩; (try first | exact ⟨rfl, _, World.drewN_drewN _ _ _⟩ | exact ⟨rfl, _, Eq.trans (World.drewN_drewN _ _ _) (congrArg (World.drewN _) (Nat.add_assoc _ _ _))⟩)))
        repeat (go_quiet (first | (go_at_call 15; (with_reducible refine (window_May.calls a0 a1 true _ A7.out).mono ?_); rintro e w' ⟨rfl, ⟨nd, rfl⟩⟩; (try first | exact ⟨rfl, _, World.drewN_drewN _ _ _⟩ | exact ⟨rfl, _, Eq.trans (World.drewN_drewN _ _ _) (congrArg (World.drewN _) (Nat.add_assoc _ _ _))⟩))); try go_wp2_with (first | (go_at_call 15; (with_reducible refine (window_May.calls a0 a1 true _ A7.out).mono ?_); rintro e w' ⟨rfl, ⟨nd, rfl⟩⟩; (try first | exact ⟨rfl, _, World.drewN_drewN _ _ _⟩ | exact ⟨rfl, _, Eq.trans (World.drewN_drewN _ _ _) (congrArg (World.drewN _) (Nat.add_assoc _ _ _))⟩))))
        go_meet
        case rel => exact ⟨_, (true), (by first | rfl | (simp; done) | (simp [*]; done)), H', ⟨by first | omega | exact Nat.le_refl _⟩, ⟨by repeat (first | (with_reducible first | exact HB.out | apply below_alloc | apply pw_below_drewN | apply below_drew1) | exact HB.out)⟩⟩
      · rw [if_neg c9] at H
        have c9b0 : decide (a2 < 0) = false := decide_eq_false c9
        clear c9
        (first | rw [c9b0] | (simp only [i64_w, i32_w]; rw [c9b0]) | skip)
        have H' := Aside0.mk H
        clear H
        go_wp2_with (first | (go_at_call 15; (with_reducible refine (window_May.calls a0 a1 true _ A7.out).mono ?_); rintro e w' ⟨rfl, ⟨nd, rfl⟩⟩; (try first | exact ⟨rfl, _, World.drewN_drewN _ _ _⟩ | exact ⟨rfl, _, Eq.trans (World.drewN_drewN _ _ _) (congrArg (World.drewN _) (Nat.add_assoc _ _ _))⟩)))
        repeat (go_quiet (first | (go_at_call 15; (with_reducible refine (window_May.calls a0 a1 true _ A7.out).mono ?_); rintro e w' ⟨rfl, ⟨nd, rfl⟩⟩; (try first | exact ⟨rfl, _, World.drewN_drewN _ _ _⟩ | exact ⟨rfl, _, Eq.trans (World.drewN_drewN _ _ _) (congrArg (World.drewN _) (Nat.add_assoc _ _ _))⟩))); try go_wp2_with (first | (go_at_call 15; (with_reducible refine (window_May.calls a0 a1 true _ A7.out).mono ?_); rintro e w' ⟨rfl, ⟨nd, rfl⟩⟩; (try first | exact ⟨rfl, _, World.drewN_drewN _ _ _⟩ | exact ⟨rfl, _, Eq.trans (World.drewN_drewN _ _ _) (congrArg (World.drewN _) (Nat.add_assoc _ _ _))⟩))))
        go_meet
        case rel => exact ⟨_, (decide (a2 > 1048576)), (by first | rfl | (simp; done) | (simp [*]; done)), H', ⟨by first | omega | exact Nat.le_refl _⟩, ⟨by repeat (first | (with_reducible first | exact HB.out | apply below_alloc | apply pw_below_drewN | apply below_drew1) | exact HB.out)⟩⟩
    · replace c8 := Bool.eq_false_iff.mpr c8
      subst c8
      have H1 : (meanderlaw07_WindowEnds.j0 k a0 a1 a2 t186 true) = some r := by rw [if_neg (show ¬ (false = true) by decide)] at H; exact H
      clear H
      have H := H1
      clear H1
      have H' := Aside0.mk H
      clear H
      go_wp2_with (first | (go_at_call 15; (with_reducible refine (window_May.calls a0 a1 false _ A7.out).mono ?_); rintro e w' ⟨rfl, ⟨nd, rfl⟩⟩; (try first | exact ⟨rfl, _, World.drewN_drewN _ _ _⟩ | exact ⟨rfl, _, Eq.trans (World.drewN_drewN _ _ _) (congrArg (World.drewN _) (Nat.add_assoc _ _ _))⟩)))
      repeat (go_quiet (first | (go_at_call 15; (with_reducible refine (window_May.calls a0 a1 false _ A7.out).mono ?_); rintro e w' ⟨rfl, ⟨nd, rfl⟩⟩; (try first | exact ⟨rfl, _, World.drewN_drewN _ _ _⟩ | exact ⟨rfl, _, Eq.trans (World.drewN_drewN _ _ _) (congrArg (World.drewN _) (Nat.add_assoc _ _ _))⟩))); try go_wp2_with (first | (go_at_call 15; (with_reducible refine (window_May.calls a0 a1 false _ A7.out).mono ?_); rintro e w' ⟨rfl, ⟨nd, rfl⟩⟩; (try first | exact ⟨rfl, _, World.drewN_drewN _ _ _⟩ | exact ⟨rfl, _, Eq.trans (World.drewN_drewN _ _ _) (congrArg (World.drewN _) (Nat.add_assoc _ _ _))⟩))))
      go_meet
      case rel => exact ⟨_, (true), (by first | rfl | (simp; done) | (simp [*]; done)), H', ⟨by first | omega | exact Nat.le_refl _⟩, ⟨by repeat (first | (with_reducible first | exact HB.out | apply below_alloc | apply pw_below_drewN | apply below_drew1) | exact HB.out)⟩⟩
  case rest =>
    clear HC5
    try clear p2
    try clear c7
    try clear c8
    try clear c9
    try clear c9b0
    obtain ⟨kq, x24_4, rfl, HA, HJ4, HB⟩ := hcut
    cases kq with
    | zero => exact absurd HA.out (by simp [meanderlaw07_WindowEnds.j0])
    | succ kj4 =>
      have H := HA.out
      clear HA
      simp only [meanderlaw07_WindowEnds.j0] at H
      by_cases c10 : x24_4 = true
      · subst c10
        have H1 : (if t186 = true then ((window_Ends.f kj4 a0 a1 a2).bind fun t188 => (some ((t188.length : Int) == 0))) else (some false)) = some r := by rw [if_pos rfl] at H; exact H
        clear H
        have H := H1
        clear H1
        by_cases c11 : t186 = true
        · subst c11
          have H1 : ((window_Ends.f kj4 a0 a1 a2).bind fun t188 => (some ((t188.length : Int) == 0))) = some r := by rw [if_pos rfl] at H; exact H
          clear H
          have H := H1
          clear H1
          replace H := Option.bind_eq_some_iff.mp H
          obtain ⟨t188, A120, H⟩ := H
          replace H : (some ((t188.length : Int) == 0)) = some r := H
          have A12 := Aside0.mk A120
          clear A120
          obtain rfl := Option.some.inj H
          go_wp2_with (first | (go_at_call 13; (with_reducible refine (window_Ends.calls kj4 a0 a1 a2 t188 _ A12.out).mono ?_); rintro e w13 ⟨v189, rfl, ho0, hb⟩; have n0_ := Aside0.mk (Kd.R_lower ho0 (below_size (by repeat (first | (with_reducible first | exact HB.out | apply below_alloc | apply pw_below_drewN | apply below_drew1) | exact HB.out)))); have n1_ := Aside0.mk (below_step (by repeat (first | (with_reducible first | exact HB.out | apply below_alloc | apply pw_below_drewN | apply below_drew1) | exact HB.out)) hb); clear HB; have HO190 := n0_; have HB := n1_; clear n0_ n1_; (try clear hb); (try clear hb2); (try clear hk); (try clear hi); (try clear ho0); obtain ⟨Ao14, co14, eo14⟩ := Kd.R_slice HO190.out; subst eo14))
          repeat (go_quiet (first | (go_at_call 13; (with_reducible refine (window_Ends.calls kj4 a0 a1 a2 t188 _ A12.out).mono ?_); rintro e w13 ⟨v189, rfl, ho0, hb⟩; have n0_ := Aside0.mk (Kd.R_lower ho0 (below_size (by repeat (first | (with_reducible first | exact HB.out | apply below_alloc | apply pw_below_drewN | apply below_drew1) | exact HB.out)))); have n1_ := Aside0.mk (below_step (by repeat (first | (with_reducible first | exact HB.out | apply below_alloc | apply pw_below_drewN | apply below_drew1) | exact HB.out)) hb); clear HB; have HO190 := n0_; have HB := n1_; clear n0_ n1_; (try clear hb); (try clear hb2); (try clear hk); (try clear hi); (try clear ho0); obtain ⟨Ao14, co14, eo14⟩ := Kd.R_slice HO190.out; subst eo14)); try go_wp2_with (first | (go_at_call 13; (with_reducible refine (window_Ends.calls kj4 a0 a1 a2 t188 _ A12.out).mono ?_); rintro e w13 ⟨v189, rfl, ho0, hb⟩; have n0_ := Aside0.mk (Kd.R_lower ho0 (below_size (by repeat (first | (with_reducible first | exact HB.out | apply below_alloc | apply pw_below_drewN | apply below_drew1) | exact HB.out)))); have n1_ := Aside0.mk (below_step (by repeat (first | (with_reducible first | exact HB.out | apply below_alloc | apply pw_below_drewN | apply below_drew1) | exact HB.out)) hb); clear HB; have HO190 := n0_; have HB := n1_; clear n0_ n1_; (try clear hb); (try clear hb2); (try clear hk); (try clear hi); (try clear ho0); obtain ⟨Ao14, co14, eo14⟩ := Kd.R_slice HO190.out; subst eo14)))
          go_ret
          exact ⟨by first | rfl | (simp [errW_none, errW_some] <;> rfl) | (simp [*, errW_none, errW_some] <;> rfl), by repeat (first | (with_reducible first | exact HB.out | apply below_alloc | apply pw_below_drewN | apply below_drew1) | exact HB.out)⟩
        · replace c11 := Bool.eq_false_iff.mpr c11
          subst c11
          have H1 : (some false) = some r := by rw [if_neg (show ¬ (false = true) by decide)] at H; exact H
          clear H
          have H := H1
          clear H1
          obtain rfl := Option.some.inj H
          go_wp2
          repeat (go_quiet (fail); try go_wp2)
          go_ret
          exact ⟨by first | rfl | (simp [errW_none, errW_some] <;> rfl) | (simp [*, errW_none, errW_some] <;> rfl), by repeat (first | (with_reducible first | exact HB.out | apply below_alloc | apply pw_below_drewN | apply below_drew1) | exact HB.out)⟩
      · replace c10 := Bool.eq_false_iff.mpr c10
        subst c10
        have H1 : ((window_Ends.f kj4 a0 a1 a2).bind fun t191 => (meanderlaw07_WindowEnds.l0 kj4 a0 a1 a2 t186 t191 false 0)) = some r := by rw [if_neg (show ¬ (false = true) by decide)] at H; exact H
        clear H
        have H := H1
        clear H1
        replace H := Option.bind_eq_some_iff.mp H
        obtain ⟨t191, A150, H⟩ := H
        replace H : (meanderlaw07_WindowEnds.l0 kj4 a0 a1 a2 t186 t191 false 0) = some r := H
        have A15 := Aside0.mk A150
        clear A150
        have H' := Aside0.mk H
        clear H
        go_wp2_with (first | (go_at_call 13; (with_reducible refine (window_Ends.calls kj4 a0 a1 a2 t191 _ A15.out).mono ?_); rintro e w16 ⟨v192, rfl, ho0, hb⟩; have n0_ := Aside0.mk (Kd.R_lower ho0 (below_size (by repeat (first | (with_reducible first | exact HB.out | apply below_alloc | apply pw_below_drewN | apply below_drew1) | exact HB.out)))); have n1_ := Aside0.mk (below_step (by repeat (first | (with_reducible first | exact HB.out | apply below_alloc | apply pw_below_drewN | apply below_drew1) | exact HB.out)) hb); clear HB; have HO193 := n0_; have HB := n1_; clear n0_ n1_; (try clear hb); (try clear hb2); (try clear hk); (try clear hi); (try clear ho0)))
        repeat (go_quiet (first | (go_at_call 13; (with_reducible refine (window_Ends.calls kj4 a0 a1 a2 t191 _ A15.out).mono ?_); rintro e w16 ⟨v192, rfl, ho0, hb⟩; have n0_ := Aside0.mk (Kd.R_lower ho0 (below_size (by repeat (first | (with_reducible first | exact HB.out | apply below_alloc | apply pw_below_drewN | apply below_drew1) | exact HB.out)))); have n1_ := Aside0.mk (below_step (by repeat (first | (with_reducible first | exact HB.out | apply below_alloc | apply pw_below_drewN | apply below_drew1) | exact HB.out)) hb); clear HB; have HO193 := n0_; have HB := n1_; clear n0_ n1_; (try clear hb); (try clear hb2); (try clear hk); (try clear hi); (try clear ho0))); try go_wp2_with (first | (go_at_call 13; (with_reducible refine (window_Ends.calls kj4 a0 a1 a2 t191 _ A15.out).mono ?_); rintro e w16 ⟨v192, rfl, ho0, hb⟩; have n0_ := Aside0.mk (Kd.R_lower ho0 (below_size (by repeat (first | (with_reducible first | exact HB.out | apply below_alloc | apply pw_below_drewN | apply below_drew1) | exact HB.out)))); have n1_ := Aside0.mk (below_step (by repeat (first | (with_reducible first | exact HB.out | apply below_alloc | apply pw_below_drewN | apply below_drew1) | exact HB.out)) hb); clear HB; have HO193 := n0_; have HB := n1_; clear n0_ n1_; (try clear hb); (try clear hb2); (try clear hk); (try clear hi); (try clear ho0))))
        go_loopg [9, 10] kj4 (fun kq v9 v10 w' => ∃ (x9_2 : Bool) (x10_2 : Int), v9 = .bool x9_2 ∧ v10 = .int .i64 x10_2 ∧ Aside0 (meanderlaw07_WindowEnds.l0 kq a0 a1 a2 t186 t191 x9_2 x10_2 = some r) ∧ Aside0 (kq ≤ kj4) ∧ Aside0 (Kd.R (Kd.int .i64) 3 w' w.heap.size (fun _ => True) v192 t191) ∧ Aside0 (Below w.heap.size w w'))
        case atStart => exact ⟨(false), (0), (by first | rfl | (simp; done) | (simp [*]; done)), (by first | rfl | (simp; done) | (simp [*]; done)), H', ⟨Nat.le_refl _⟩, ⟨by (with_reducible repeat (first | apply Kd.R_alloc | apply Kd.R_drewN | apply Kd.R_drew)); exact HO193.out⟩, ⟨by repeat (first | (with_reducible first | exact HB.out | apply below_alloc | apply pw_below_drewN | apply below_drew1) | exact HB.out)⟩⟩
        case round =>
          clear H'
          try clear c1
          try clear p2
          try clear c7
          try clear c8
          try clear c9
          try clear c9b0
          try clear c10
          try clear c11
          try clear p2
          obtain ⟨x9_2, x10_2, rfl, rfl, HA, HK2, HO_8, HB⟩ := hrel
          cases gk with
          | zero => exact absurd HA.out (by simp [meanderlaw07_WindowEnds.l0])
          | succ k2 =>
            have H := HA.out
            clear HA
            simp only [meanderlaw07_WindowEnds.l0] at H
            by_cases c17 : x10_2 < (t191.length : Int)
            · rw [if_pos c17] at H
              have c17b0 : decide (x10_2 < (t191.length : Int)) = true := decide_eq_true c17
              clear c17
              by_cases c18 : 0 ≤ x10_2
              · rw [if_pos c18] at H
                have c18b0 : decide (0 ≤ x10_2) = true := decide_eq_true c18
                clear c18
                by_cases c19 : (rd t191 x10_2) < a2
                · rw [if_pos c19] at H
                  have c19b0 : decide ((rd t191 x10_2) < a2) = true := decide_eq_true c19
                  clear c19
                  obtain rfl := Option.some.inj H
                  obtain ⟨Ao20, co20, eo20⟩ := Kd.R_slice HO_8.out
                  subst eo20
                  have p194 : 0 ≤ (x10_2 : Int) := of_decide_eq_true (by first | (with_reducible assumption) | assumption)
                  have q194 : x10_2 < (t191.length : Int) := of_decide_eq_true (by first | (with_reducible assumption) | assumption)
                  obtain ⟨ad194, e194, hx194_0⟩ := Kd.at_int (Kd.R_reads' HO_8.out).2.2 x10_2 p194 q194
                  cases e194
                  replace p194 := eq_true p194
                  replace q194 := eq_true q194
                  go_wp2
                  repeat (go_quiet (fail); try go_wp2)
                  go_ret
                  exact ⟨by first | rfl | (simp [errW_none, errW_some] <;> rfl) | (simp [*, errW_none, errW_some] <;> rfl), by repeat (first | (with_reducible first | exact HB.out | apply below_alloc | apply pw_below_drewN | apply below_drew1) | exact HB.out)⟩
                · rw [if_neg c19] at H
                  have c19b0 : decide ((rd t191 x10_2) < a2) = false := decide_eq_false c19
                  clear c19
                  by_cases c21 : (rd t191 x10_2) ≥ (wrap64 (a2 + a0))
                  · rw [if_pos c21] at H
                    have c21b0 : decide ((wrap64 (a2 + a0)) ≤ (rd t191 x10_2)) = true := decide_eq_true c21
                    clear c21
                    obtain rfl := Option.some.inj H
                    obtain ⟨Ao22, co22, eo22⟩ := Kd.R_slice HO_8.out
                    subst eo22
                    have p194 : 0 ≤ (x10_2 : Int) := of_decide_eq_true (by first | (with_reducible assumption) | assumption)
                    have q194 : x10_2 < (t191.length : Int) := of_decide_eq_true (by first | (with_reducible assumption) | assumption)
                    obtain ⟨ad194, e194, hx194_0⟩ := Kd.at_int (Kd.R_reads' HO_8.out).2.2 x10_2 p194 q194
                    cases e194
                    replace p194 := eq_true p194
                    replace q194 := eq_true q194
                    have p195 : 0 ≤ (x10_2 : Int) := of_decide_eq_true (by first | (with_reducible assumption) | assumption)
                    have q195 : x10_2 < (t191.length : Int) := of_decide_eq_true (by first | (with_reducible assumption) | assumption)
                    obtain ⟨ad195, e195, hx195_0⟩ := Kd.at_int (Kd.R_reads' HO_8.out).2.2 x10_2 p195 q195
                    obtain rfl : ad194 = ad195 := (by injection e195)
                    replace p195 := eq_true p195
                    replace q195 := eq_true q195
                    go_wp2
                    repeat (go_quiet (fail); try go_wp2)
                    go_ret
                    exact ⟨by first | rfl | (simp [errW_none, errW_some] <;> rfl) | (simp [*, errW_none, errW_some] <;> rfl), by repeat (first | (with_reducible first | exact HB.out | apply below_alloc | apply pw_below_drewN | apply below_drew1) | exact HB.out)⟩
                  · rw [if_neg c21] at H
                    have c21b0 : decide ((wrap64 (a2 + a0)) ≤ (rd t191 x10_2)) = false := decide_eq_false c21
                    clear c21
                    by_cases c23 : x10_2 > 0
                    · rw [if_pos c23] at H
                      have c23b0 : decide (0 < x10_2) = true := decide_eq_true c23
                      clear c23
                      obtain ⟨ji24, hji24⟩ : ∃ j_ : Int, (wrap64 (x10_2 - 1)) = j_ := ⟨_, rfl⟩
                      replace H : (if 0 ≤ (ji24) then (if (ji24) < (t191.length : Int) then (if (wrap64 ((rd t191 x10_2) - (rd t191 (ji24)))) = a1 then (if x9_2 = true then (meanderlaw07_WindowEnds.l0 k2 a0 a1 a2 t186 t191 true (wrap64 (x10_2 + 1))) else (meanderlaw07_WindowEnds.l0 k2 a0 a1 a2 t186 t191 ((rd t191 x10_2) == a2) (wrap64 (x10_2 + 1)))) else (some false)) else (none)) else (none)) = some r := by first | (rw [hji24] at H; exact H) | (simp only [hji24] at H ⊢; exact H)
                      have hji24w : (IntKind.i64.wrap (x10_2 - 1)) = ji24 := (i64_w _).trans hji24
                      by_cases c25 : 0 ≤ (ji24)
                      · rw [if_pos c25] at H
                        have c25b0 : decide (0 ≤ (ji24)) = true := decide_eq_true c25
                        clear c25
                        by_cases c26 : (ji24) < (t191.length : Int)
                        · rw [if_pos c26] at H
                          have c26b0 : decide ((ji24) < (t191.length : Int)) = true := decide_eq_true c26
                          clear c26
                          by_cases c27 : (wrap64 ((rd t191 x10_2) - (rd t191 (ji24)))) = a1
                          · rw [if_pos c27] at H
                            have c27b0 : ((wrap64 ((rd t191 x10_2) - (rd t191 (ji24)))) == a1) = true := beq_iff_eq.mpr c27
                            have c27b1 : ((wrap64 ((rd t191 x10_2) - (rd t191 (ji24)))) != a1) = false := bne_eq_false_iff_eq.mpr c27
                            clear c27
                            by_cases c28 : x9_2 = true
                            · subst c28
                              have H1 : (meanderlaw07_WindowEnds.l0 k2 a0 a1 a2 t186 t191 true (wrap64 (x10_2 + 1))) = some r := by rw [if_pos rfl] at H; exact H
                              clear H
                              have H := H1
                              clear H1
                              have H' := Aside0.mk H
                              clear H
                              obtain ⟨Ao29, co29, eo29⟩ := Kd.R_slice HO_8.out
                              subst eo29
                              have p194 : 0 ≤ (x10_2 : Int) := of_decide_eq_true (by first | (with_reducible assumption) | assumption)
                              have q194 : x10_2 < (t191.length : Int) := of_decide_eq_true (by first | (with_reducible assumption) | assumption)
                              obtain ⟨ad194, e194, hx194_0⟩ := Kd.at_int (Kd.R_reads' HO_8.out).2.2 x10_2 p194 q194
                              cases e194
                              replace p194 := eq_true p194
                              replace q194 := eq_true q194
                              have p195 : 0 ≤ (x10_2 : Int) := of_decide_eq_true (by first | (with_reducible assumption) | assumption)
                              have q195 : x10_2 < (t191.length : Int) := of_decide_eq_true (by first | (with_reducible assumption) | assumption)
                              obtain ⟨ad195, e195, hx195_0⟩ := Kd.at_int (Kd.R_reads' HO_8.out).2.2 x10_2 p195 q195
                              obtain rfl : ad194 = ad195 := (by injection e195)
                              replace p195 := eq_true p195
                              replace q195 := eq_true q195
                              have p196 : 0 ≤ (x10_2 : Int) := of_decide_eq_true (by first | (with_reducible assumption) | assumption)
                              have q196 : x10_2 < (t191.length : Int) := of_decide_eq_true (by first | (with_reducible assumption) | assumption)
                              obtain ⟨ad196, e196, hx196_0⟩ := Kd.at_int (Kd.R_reads' HO_8.out).2.2 x10_2 p196 q196
                              obtain rfl : ad194 = ad196 := (by injection e196)
                              replace p196 := eq_true p196
                              replace q196 := eq_true q196
                              have p197 : 0 ≤ ((ji24) : Int) := of_decide_eq_true (by first | (with_reducible assumption) | assumption)
                              have q197 : (ji24) < (t191.length : Int) := of_decide_eq_true (by first | (with_reducible assumption) | assumption)
                              obtain ⟨ad197, e197, hx197_0⟩ := Kd.at_int (Kd.R_reads' HO_8.out).2.2 (ji24) p197 q197
                              obtain rfl : ad194 = ad197 := (by injection e197)
                              replace p197 := eq_true p197
                              replace q197 := eq_true q197
                              go_wp2
                              repeat (go_quiet (fail); try go_wp2)
                              go_roundg k2
                              case measure => have := HJ4.out; have := HK2.out; omega
                              case rel => exact ⟨(true), (wrap64 (x10_2 + 1)), (by first | rfl | (simp; done) | (simp [*]; done)), (by first | rfl | (simp; done) | (simp [*]; done)), H', ⟨by have := HJ4.out; have := HK2.out; omega⟩, ⟨by (with_reducible repeat (first | apply Kd.R_alloc | apply Kd.R_drewN | apply Kd.R_drew)); exact HO_8.out⟩, ⟨by repeat (first | (with_reducible first | exact HB.out | apply below_alloc | apply pw_below_drewN | apply below_drew1) | exact HB.out)⟩⟩
                            · replace c28 := Bool.eq_false_iff.mpr c28
                              subst c28
                              have H1 : (meanderlaw07_WindowEnds.l0 k2 a0 a1 a2 t186 t191 ((rd t191 x10_2) == a2) (wrap64 (x10_2 + 1))) = some r := by rw [if_neg (show ¬ (false = true) by decide)] at H; exact H
                              clear H
                              have H := H1
                              clear H1
                              have H' := Aside0.mk H
                              clear H
                              obtain ⟨Ao30, co30, eo30⟩ := Kd.R_slice HO_8.out
                              subst eo30
                              have p194 : 0 ≤ (x10_2 : Int) := of_decide_eq_true (by first | (with_reducible assumption) | assumption)
                              have q194 : x10_2 < (t191.length : Int) := of_decide_eq_true (by first | (with_reducible assumption) | assumption)
                              obtain ⟨ad194, e194, hx194_0⟩ := Kd.at_int (Kd.R_reads' HO_8.out).2.2 x10_2 p194 q194
                              cases e194
                              replace p194 := eq_true p194
                              replace q194 := eq_true q194
                              have p195 : 0 ≤ (x10_2 : Int) := of_decide_eq_true (by first | (with_reducible assumption) | assumption)
                              have q195 : x10_2 < (t191.length : Int) := of_decide_eq_true (by first | (with_reducible assumption) | assumption)
                              obtain ⟨ad195, e195, hx195_0⟩ := Kd.at_int (Kd.R_reads' HO_8.out).2.2 x10_2 p195 q195
                              obtain rfl : ad194 = ad195 := (by injection e195)
                              replace p195 := eq_true p195
                              replace q195 := eq_true q195
                              have p196 : 0 ≤ (x10_2 : Int) := of_decide_eq_true (by first | (with_reducible assumption) | assumption)
                              have q196 : x10_2 < (t191.length : Int) := of_decide_eq_true (by first | (with_reducible assumption) | assumption)
                              obtain ⟨ad196, e196, hx196_0⟩ := Kd.at_int (Kd.R_reads' HO_8.out).2.2 x10_2 p196 q196
                              obtain rfl : ad194 = ad196 := (by injection e196)
                              replace p196 := eq_true p196
                              replace q196 := eq_true q196
                              have p197 : 0 ≤ ((ji24) : Int) := of_decide_eq_true (by first | (with_reducible assumption) | assumption)
                              have q197 : (ji24) < (t191.length : Int) := of_decide_eq_true (by first | (with_reducible assumption) | assumption)
                              obtain ⟨ad197, e197, hx197_0⟩ := Kd.at_int (Kd.R_reads' HO_8.out).2.2 (ji24) p197 q197
                              obtain rfl : ad194 = ad197 := (by injection e197)
                              replace p197 := eq_true p197
                              replace q197 := eq_true q197
                              have p198 : 0 ≤ (x10_2 : Int) := of_decide_eq_true (by first | (with_reducible assumption) | assumption)
                              have q198 : x10_2 < (t191.length : Int) := of_decide_eq_true (by first | (with_reducible assumption) | assumption)
                              obtain ⟨ad198, e198, hx198_0⟩ := Kd.at_int (Kd.R_reads' HO_8.out).2.2 x10_2 p198 q198
                              obtain rfl : ad194 = ad198 := (by injection e198)
                              replace p198 := eq_true p198
                              replace q198 := eq_true q198
                              go_wp2
                              repeat (go_quiet (fail); try go_wp2)
                              go_roundg k2
                              case measure => have := HJ4.out; have := HK2.out; omega
                              case rel => exact ⟨(((rd t191 x10_2) == a2)), (wrap64 (x10_2 + 1)), (by first | rfl | (simp; done) | (simp [*]; done)), (by first | rfl | (simp; done) | (simp [*]; done)), H', ⟨by have := HJ4.out; have := HK2.out; omega⟩, ⟨by (with_reducible repeat (first | apply Kd.R_alloc | apply Kd.R_drewN | apply Kd.R_drew)); exact HO_8.out⟩, ⟨by repeat (first | (with_reducible first | exact HB.out | apply below_alloc | apply pw_below_drewN | apply below_drew1) | exact HB.out)⟩⟩
                          · rw [if_neg c27] at H
                            have c27b0 : ((wrap64 ((rd t191 x10_2) - (rd t191 (ji24)))) == a1) = false := beq_eq_false_iff_ne.mpr c27
                            have c27b1 : ((wrap64 ((rd t191 x10_2) - (rd t191 (ji24)))) != a1) = true := bne_iff_ne.mpr c27
                            obtain rfl := Option.some.inj H
                            obtain ⟨Ao31, co31, eo31⟩ := Kd.R_slice HO_8.out
                            subst eo31
                            have p194 : 0 ≤ (x10_2 : Int) := of_decide_eq_true (by first | (with_reducible assumption) | assumption)
                            have q194 : x10_2 < (t191.length : Int) := of_decide_eq_true (by first | (with_reducible assumption) | assumption)
                            obtain ⟨ad194, e194, hx194_0⟩ := Kd.at_int (Kd.R_reads' HO_8.out).2.2 x10_2 p194 q194
                            cases e194
                            replace p194 := eq_true p194
                            replace q194 := eq_true q194
                            have p195 : 0 ≤ (x10_2 : Int) := of_decide_eq_true (by first | (with_reducible assumption) | assumption)
                            have q195 : x10_2 < (t191.length : Int) := of_decide_eq_true (by first | (with_reducible assumption) | assumption)
                            obtain ⟨ad195, e195, hx195_0⟩ := Kd.at_int (Kd.R_reads' HO_8.out).2.2 x10_2 p195 q195
                            obtain rfl : ad194 = ad195 := (by injection e195)
                            replace p195 := eq_true p195
                            replace q195 := eq_true q195
                            have p196 : 0 ≤ (x10_2 : Int) := of_decide_eq_true (by first | (with_reducible assumption) | assumption)
                            have q196 : x10_2 < (t191.length : Int) := of_decide_eq_true (by first | (with_reducible assumption) | assumption)
                            obtain ⟨ad196, e196, hx196_0⟩ := Kd.at_int (Kd.R_reads' HO_8.out).2.2 x10_2 p196 q196
                            obtain rfl : ad194 = ad196 := (by injection e196)
                            replace p196 := eq_true p196
                            replace q196 := eq_true q196
                            have p197 : 0 ≤ ((ji24) : Int) := of_decide_eq_true (by first | (with_reducible assumption) | assumption)
                            have q197 : (ji24) < (t191.length : Int) := of_decide_eq_true (by first | (with_reducible assumption) | assumption)
                            obtain ⟨ad197, e197, hx197_0⟩ := Kd.at_int (Kd.R_reads' HO_8.out).2.2 (ji24) p197 q197
                            obtain rfl : ad194 = ad197 := (by injection e197)
                            replace p197 := eq_true p197
                            replace q197 := eq_true q197
                            go_wp2
                            repeat (go_quiet (fail); try go_wp2)
                            go_ret
                            exact ⟨by first | rfl | (simp [errW_none, errW_some] <;> rfl) | (simp only [← hji24]; first | rfl | (simp [errW_none, errW_some] <;> rfl)) | (simp [*, errW_none, errW_some] <;> rfl), by repeat (first | (with_reducible first | exact HB.out | apply below_alloc | apply pw_below_drewN | apply below_drew1) | exact HB.out)⟩
                        · rw [if_neg c26] at H
                          exact absurd H (by simp)
                      · rw [if_neg c25] at H
                        exact absurd H (by simp)
                    · rw [if_neg c23] at H
                      have c23b0 : decide (0 < x10_2) = false := decide_eq_false c23
                      clear c23
                      by_cases c32 : x9_2 = true
                      · subst c32
                        have H1 : (meanderlaw07_WindowEnds.l0 k2 a0 a1 a2 t186 t191 true (wrap64 (x10_2 + 1))) = some r := by rw [if_pos rfl] at H; exact H
                        clear H
                        have H := H1
                        clear H1
                        have H' := Aside0.mk H
                        clear H
                        obtain ⟨Ao33, co33, eo33⟩ := Kd.R_slice HO_8.out
                        subst eo33
                        have p194 : 0 ≤ (x10_2 : Int) := of_decide_eq_true (by first | (with_reducible assumption) | assumption)
                        have q194 : x10_2 < (t191.length : Int) := of_decide_eq_true (by first | (with_reducible assumption) | assumption)
                        obtain ⟨ad194, e194, hx194_0⟩ := Kd.at_int (Kd.R_reads' HO_8.out).2.2 x10_2 p194 q194
                        cases e194
                        replace p194 := eq_true p194
                        replace q194 := eq_true q194
                        have p195 : 0 ≤ (x10_2 : Int) := of_decide_eq_true (by first | (with_reducible assumption) | assumption)
                        have q195 : x10_2 < (t191.length : Int) := of_decide_eq_true (by first | (with_reducible assumption) | assumption)
                        obtain ⟨ad195, e195, hx195_0⟩ := Kd.at_int (Kd.R_reads' HO_8.out).2.2 x10_2 p195 q195
                        obtain rfl : ad194 = ad195 := (by injection e195)
                        replace p195 := eq_true p195
                        replace q195 := eq_true q195
                        go_wp2
                        repeat (go_quiet (fail); try go_wp2)
                        go_roundg k2
                        case measure => have := HJ4.out; have := HK2.out; omega
                        case rel => exact ⟨(true), (wrap64 (x10_2 + 1)), (by first | rfl | (simp; done) | (simp [*]; done)), (by first | rfl | (simp; done) | (simp [*]; done)), H', ⟨by have := HJ4.out; have := HK2.out; omega⟩, ⟨by (with_reducible repeat (first | apply Kd.R_alloc | apply Kd.R_drewN | apply Kd.R_drew)); exact HO_8.out⟩, ⟨by repeat (first | (with_reducible first | exact HB.out | apply below_alloc | apply pw_below_drewN | apply below_drew1) | exact HB.out)⟩⟩
                      · replace c32 := Bool.eq_false_iff.mpr c32
                        subst c32
                        have H1 : (meanderlaw07_WindowEnds.l0 k2 a0 a1 a2 t186 t191 ((rd t191 x10_2) == a2) (wrap64 (x10_2 + 1))) = some r := by rw [if_neg (show ¬ (false = true) by decide)] at H; exact H
                        clear H
                        have H := H1
                        clear H1
                        have H' := Aside0.mk H
                        clear H
                        obtain ⟨Ao34, co34, eo34⟩ := Kd.R_slice HO_8.out
                        subst eo34
                        have p194 : 0 ≤ (x10_2 : Int) := of_decide_eq_true (by first | (with_reducible assumption) | assumption)
                        have q194 : x10_2 < (t191.length : Int) := of_decide_eq_true (by first | (with_reducible assumption) | assumption)
                        obtain ⟨ad194, e194, hx194_0⟩ := Kd.at_int (Kd.R_reads' HO_8.out).2.2 x10_2 p194 q194
                        cases e194
                        replace p194 := eq_true p194
                        replace q194 := eq_true q194
                        have p195 : 0 ≤ (x10_2 : Int) := of_decide_eq_true (by first | (with_reducible assumption) | assumption)
                        have q195 : x10_2 < (t191.length : Int) := of_decide_eq_true (by first | (with_reducible assumption) | assumption)
                        obtain ⟨ad195, e195, hx195_0⟩ := Kd.at_int (Kd.R_reads' HO_8.out).2.2 x10_2 p195 q195
                        obtain rfl : ad194 = ad195 := (by injection e195)
                        replace p195 := eq_true p195
                        replace q195 := eq_true q195
                        have p199 : 0 ≤ (x10_2 : Int) := of_decide_eq_true (by first | (with_reducible assumption) | assumption)
                        have q199 : x10_2 < (t191.length : Int) := of_decide_eq_true (by first | (with_reducible assumption) | assumption)
                        obtain ⟨ad199, e199, hx199_0⟩ := Kd.at_int (Kd.R_reads' HO_8.out).2.2 x10_2 p199 q199
                        obtain rfl : ad194 = ad199 := (by injection e199)
                        replace p199 := eq_true p199
                        replace q199 := eq_true q199
                        go_wp2
                        repeat (go_quiet (fail); try go_wp2)
                        go_roundg k2
                        case measure => have := HJ4.out; have := HK2.out; omega
                        case rel => exact ⟨(((rd t191 x10_2) == a2)), (wrap64 (x10_2 + 1)), (by first | rfl | (simp; done) | (simp [*]; done)), (by first | rfl | (simp; done) | (simp [*]; done)), H', ⟨by have := HJ4.out; have := HK2.out; omega⟩, ⟨by (with_reducible repeat (first | apply Kd.R_alloc | apply Kd.R_drewN | apply Kd.R_drew)); exact HO_8.out⟩, ⟨by repeat (first | (with_reducible first | exact HB.out | apply below_alloc | apply pw_below_drewN | apply below_drew1) | exact HB.out)⟩⟩
              · rw [if_neg c18] at H
                exact absurd H (by simp)
            · rw [if_neg c17] at H
              have c17b0 : decide (x10_2 < (t191.length : Int)) = false := decide_eq_false c17
              clear c17
              by_cases c35 : (wrap64 ((wrap64 (a2 - a0)) + 1)) ≥ 0
              · rw [if_pos c35] at H
                have c35b0 : decide (0 ≤ (wrap64 ((wrap64 (a2 - a0)) + 1))) = true := decide_eq_true c35
                clear c35
                by_cases c36 : a1 = 0
                · rw [if_pos c36] at H
                  exact absurd H (by simp)
                · rw [if_neg c36] at H
                  have c36b0 : (a1 == 0) = false := beq_eq_false_iff_ne.mpr c36
                  have c36b1 : (a1 != 0) = true := bne_iff_ne.mpr c36
                  by_cases c37 : t186 = true
                  · subst c37
                    have H1 : (if (x9_2 == ((Int.tmod (wrap64 ((wrap64 (a2 - a0)) + 1)) a1) == 0)) = true then ((window_Of.f k2 a0 a1 a2).bind fun t200 => (some ((t191.length : Int) == (t200.length : Int)))) else (some false)) = some r := by rw [if_pos rfl] at H; exact H
                    clear H
                    have H := H1
                    clear H1
                    by_cases c38 : (x9_2 == ((Int.tmod (wrap64 ((wrap64 (a2 - a0)) + 1)) a1) == 0)) = true
                    · rw [if_pos c38] at H
                      have c38b0 : (x9_2 == ((Int.tmod (wrap64 ((wrap64 (a2 - a0)) + 1)) a1) == 0)) = true := c38
                      (try (have c38b1 : decide (x9_2 = ((Int.tmod (wrap64 ((wrap64 (a2 - a0)) + 1)) a1) == 0)) = true := by simpa using c38))
                      (try (have c38b2 : (x9_2 == ((Int.tmod (wrap64 ((wrap64 (a2 - a0)) + 1)) a1) == 0)) = true := by simpa using c38))
                      clear c38
                      replace H := Option.bind_eq_some_iff.mp H
                      obtain ⟨t200, A390, H⟩ := H
                      replace H : (some ((t191.length : Int) == (t200.length : Int))) = some r := H
                      have A39 := Aside0.mk A390
                      clear A390
                      obtain rfl := Option.some.inj H
                      obtain ⟨Ao40, co40, eo40⟩ := Kd.R_slice HO_8.out
                      subst eo40
                      go_wp2_with (first | (go_at_call 11; (with_reducible refine (window_Of.calls k2 a0 a1 a2 t200 _ A39.out).mono ?_); rintro e w41 ⟨v201, rfl, ho0, hb⟩; have n0_ := Aside0.mk (Kd.R_elder' (by (with_reducible repeat (first | apply Kd.R_alloc | apply Kd.R_drewN | apply Kd.R_drew)); exact HO_8.out) (Kd.R_base ho0) hb); have n1_ := Aside0.mk (Kd.R_lower (Kd.R_new' ho0 (Kd.R_lt (by (with_reducible repeat (first | apply Kd.R_alloc | apply Kd.R_drewN | apply Kd.R_drew)); exact HO_8.out))) (below_size (by repeat (first | (with_reducible first | exact HB.out | apply below_alloc | apply pw_below_drewN | apply below_drew1) | exact HB.out)))); have n2_ := Aside0.mk (below_step (by repeat (first | (with_reducible first | exact HB.out | apply below_alloc | apply pw_below_drewN | apply below_drew1) | exact HB.out)) hb); clear HO_8; clear HB; have HO_8 := n0_; have HO202 := n1_; have HB := n2_; clear n0_ n1_ n2_; (try clear hb); (try clear hb2); (try clear hk); (try clear hi); (try clear ho0); obtain ⟨Ao42, co42, eo42⟩ := Kd.R_slice HO202.out; subst eo42))
                      repeat (go_quiet (first | (go_at_call 11; (with_reducible refine (window_Of.calls k2 a0 a1 a2 t200 _ A39.out).mono ?_); rintro e w41 ⟨v201, rfl, ho0, hb⟩; have n0_ := Aside0.mk (Kd.R_elder' (by (with_reducible repeat (first | apply Kd.R_alloc | apply Kd.R_drewN | apply Kd.R_drew)); exact HO_8.out) (Kd.R_base ho0) hb); have n1_ := Aside0.mk (Kd.R_lower (Kd.R_new' ho0 (Kd.R_lt (by (with_reducible repeat (first | apply Kd.R_alloc | apply Kd.R_drewN | apply Kd.R_drew)); exact HO_8.out))) (below_size (by repeat (first | (with_reducible first | exact HB.out | apply below_alloc | apply pw_below_drewN | apply below_drew1) | exact HB.out)))); have n2_ := Aside0.mk (below_step (by repeat (first | (with_reducible first | exact HB.out | apply below_alloc | apply pw_below_drewN | apply below_drew1) | exact HB.out)) hb); clear HO_8; clear HB; have HO_8 := n0_; have HO202 := n1_; have HB := n2_; clear n0_ n1_ n2_; (try clear hb); (try clear hb2); (try clear hk); (try clear hi); (try clear ho0); obtain ⟨Ao42, co42, eo42⟩ := Kd.R_slice HO202.out; subst eo42)); try go_wp2_with (first | (go_at_call 11; (with_reducible refine (window_Of.calls k2 a0 a1 a2 t200 _ A39.out).mono ?_); rintro e w41 ⟨v201, rfl, ho0, hb⟩; have n0_ := Aside0.mk (Kd.R_elder' (by (with_reducible repeat (first | apply Kd.R_alloc | apply Kd.R_drewN | apply Kd.R_drew)); exact HO_8.out) (Kd.R_base ho0) hb); have n1_ := Aside0.mk (Kd.R_lower (Kd.R_new' ho0 (Kd.R_lt (by (with_reducible repeat (first | apply Kd.R_alloc | apply Kd.R_drewN | apply Kd.R_drew)); exact HO_8.out))) (below_size (by repeat (first | (with_reducible first | exact HB.out | apply below_alloc | apply pw_below_drewN | apply below_drew1) | exact HB.out)))); have n2_ := Aside0.mk (below_step (by repeat (first | (with_reducible first | exact HB.out | apply below_alloc | apply pw_below_drewN | apply below_drew1) | exact HB.out)) hb); clear HO_8; clear HB; have HO_8 := n0_; have HO202 := n1_; have HB := n2_; clear n0_ n1_ n2_; (try clear hb); (try clear hb2); (try clear hk); (try clear hi); (try clear ho0); obtain ⟨Ao42, co42, eo42⟩ := Kd.R_slice HO202.out; subst eo42)))
                      go_ret
                      exact ⟨by first | rfl | (simp [errW_none, errW_some] <;> rfl) | (simp [*, errW_none, errW_some] <;> rfl), by repeat (first | (with_reducible first | exact HB.out | apply below_alloc | apply pw_below_drewN | apply below_drew1) | exact HB.out)⟩
                    · rw [if_neg c38] at H
                      have c38b0 : (x9_2 == ((Int.tmod (wrap64 ((wrap64 (a2 - a0)) + 1)) a1) == 0)) = false := by simpa using c38
                      (try (have c38b1 : decide (x9_2 = ((Int.tmod (wrap64 ((wrap64 (a2 - a0)) + 1)) a1) == 0)) = false := by simpa using c38))
                      (try (have c38b2 : (x9_2 == ((Int.tmod (wrap64 ((wrap64 (a2 - a0)) + 1)) a1) == 0)) = false := by simpa using c38))
                      (try (have c38b3 : ¬ (x9_2 = ((Int.tmod (wrap64 ((wrap64 (a2 - a0)) + 1)) a1) == 0)) := by simpa using c38))
                      clear c38
                      obtain rfl := Option.some.inj H
                      obtain ⟨Ao43, co43, eo43⟩ := Kd.R_slice HO_8.out
                      subst eo43
                      go_wp2
                      repeat (go_quiet (fail); try go_wp2)
                      go_ret
                      exact ⟨by first | rfl | (simp [errW_none, errW_some] <;> rfl) | (simp [*, errW_none, errW_some] <;> rfl), by repeat (first | (with_reducible first | exact HB.out | apply below_alloc | apply pw_below_drewN | apply below_drew1) | exact HB.out)⟩
                  · replace c37 := Bool.eq_false_iff.mpr c37
                    subst c37
                    have H1 : (some false) = some r := by rw [if_neg (show ¬ (false = true) by decide)] at H; exact H
                    clear H
                    have H := H1
                    clear H1
                    obtain rfl := Option.some.inj H
                    obtain ⟨Ao44, co44, eo44⟩ := Kd.R_slice HO_8.out
                    subst eo44
                    go_wp2
                    repeat (go_quiet (fail); try go_wp2)
                    go_ret
                    exact ⟨by first | rfl | (simp [errW_none, errW_some] <;> rfl) | (simp [*, errW_none, errW_some] <;> rfl), by repeat (first | (with_reducible first | exact HB.out | apply below_alloc | apply pw_below_drewN | apply below_drew1) | exact HB.out)⟩
              · rw [if_neg c35] at H
                have c35b0 : decide (0 ≤ (wrap64 ((wrap64 (a2 - a0)) + 1))) = false := decide_eq_false c35
                clear c35
                by_cases c45 : t186 = true
                · subst c45
                  have H1 : (if (x9_2 == false) = true then ((window_Of.f k2 a0 a1 a2).bind fun t203 => (some ((t191.length : Int) == (t203.length : Int)))) else (some false)) = some r := by rw [if_pos rfl] at H; exact H
                  clear H
                  have H := H1
                  clear H1
                  by_cases c46 : (x9_2 == false) = true
                  · rw [if_pos c46] at H
                    have c46b0 : (x9_2 == false) = true := c46
                    (try (have c46b1 : decide (x9_2 = false) = true := by simpa using c46))
                    (try (have c46b2 : (x9_2 == false) = true := by simpa using c46))
                    clear c46
                    replace H := Option.bind_eq_some_iff.mp H
                    obtain ⟨t203, A470, H⟩ := H
                    replace H : (some ((t191.length : Int) == (t203.length : Int))) = some r := H
                    have A47 := Aside0.mk A470
                    clear A470
                    obtain rfl := Option.some.inj H
                    obtain ⟨Ao48, co48, eo48⟩ := Kd.R_slice HO_8.out
                    subst eo48
                    go_wp2_with (first | (go_at_call 11; (with_reducible refine (window_Of.calls k2 a0 a1 a2 t203 _ A47.out).mono ?_); rintro e w49 ⟨v204, rfl, ho0, hb⟩; have n0_ := Aside0.mk (Kd.R_elder' (by (with_reducible repeat (first | apply Kd.R_alloc | apply Kd.R_drewN | apply Kd.R_drew)); exact HO_8.out) (Kd.R_base ho0) hb); have n1_ := Aside0.mk (Kd.R_lower (Kd.R_new' ho0 (Kd.R_lt (by (with_reducible repeat (first | apply Kd.R_alloc | apply Kd.R_drewN | apply Kd.R_drew)); exact HO_8.out))) (below_size (by repeat (first | (with_reducible first | exact HB.out | apply below_alloc | apply pw_below_drewN | apply below_drew1) | exact HB.out)))); have n2_ := Aside0.mk (below_step (by repeat (first | (with_reducible first | exact HB.out | apply below_alloc | apply pw_below_drewN | apply below_drew1) | exact HB.out)) hb); clear HO_8; clear HB; have HO_8 := n0_; have HO205 := n1_; have HB := n2_; clear n0_ n1_ n2_; (try clear hb); (try clear hb2); (try clear hk); (try clear hi); (try clear ho0); obtain ⟨Ao50, co50, eo50⟩ := Kd.R_slice HO205.out; subst eo50))
                    repeat (go_quiet (first | (go_at_call 11; (with_reducible refine (window_Of.calls k2 a0 a1 a2 t203 _ A47.out).mono ?_); rintro e w49 ⟨v204, rfl, ho0, hb⟩; have n0_ := Aside0.mk (Kd.R_elder' (by (with_reducible repeat (first | apply Kd.R_alloc | apply Kd.R_drewN | apply Kd.R_drew)); exact HO_8.out) (Kd.R_base ho0) hb); have n1_ := Aside0.mk (Kd.R_lower (Kd.R_new' ho0 (Kd.R_lt (by (with_reducible repeat (first | apply Kd.R_alloc | apply Kd.R_drewN | apply Kd.R_drew)); exact HO_8.out))) (below_size (by repeat (first | (with_reducible first | exact HB.out | apply below_alloc | apply pw_below_drewN | apply below_drew1) | exact HB.out)))); have n2_ := Aside0.mk (below_step (by repeat (first | (with_reducible first | exact HB.out | apply below_alloc | apply pw_below_drewN | apply below_drew1) | exact HB.out)) hb); clear HO_8; clear HB; have HO_8 := n0_; have HO205 := n1_; have HB := n2_; clear n0_ n1_ n2_; (try clear hb); (try clear hb2); (try clear hk); (try clear hi); (try clear ho0); obtain ⟨Ao50, co50, eo50⟩ := Kd.R_slice HO205.out; subst eo50)); try go_wp2_with (first | (go_at_call 11; (with_reducible refine (window_Of.calls k2 a0 a1 a2 t203 _ A47.out).mono ?_); rintro e w49 ⟨v204, rfl, ho0, hb⟩; have n0_ := Aside0.mk (Kd.R_elder' (by (with_reducible repeat (first | apply Kd.R_alloc | apply Kd.R_drewN | apply Kd.R_drew)); exact HO_8.out) (Kd.R_base ho0) hb); have n1_ := Aside0.mk (Kd.R_lower (Kd.R_new' ho0 (Kd.R_lt (by (with_reducible repeat (first | apply Kd.R_alloc | apply Kd.R_drewN | apply Kd.R_drew)); exact HO_8.out))) (below_size (by repeat (first | (with_reducible first | exact HB.out | apply below_alloc | apply pw_below_drewN | apply below_drew1) | exact HB.out)))); have n2_ := Aside0.mk (below_step (by repeat (first | (with_reducible first | exact HB.out | apply below_alloc | apply pw_below_drewN | apply below_drew1) | exact HB.out)) hb); clear HO_8; clear HB; have HO_8 := n0_; have HO205 := n1_; have HB := n2_; clear n0_ n1_ n2_; (try clear hb); (try clear hb2); (try clear hk); (try clear hi); (try clear ho0); obtain ⟨Ao50, co50, eo50⟩ := Kd.R_slice HO205.out; subst eo50)))
                    go_ret
                    exact ⟨by first | rfl | (simp [errW_none, errW_some] <;> rfl) | (simp [*, errW_none, errW_some] <;> rfl), by repeat (first | (with_reducible first | exact HB.out | apply below_alloc | apply pw_below_drewN | apply below_drew1) | exact HB.out)⟩
                  · rw [if_neg c46] at H
                    have c46b0 : (x9_2 == false) = false := by simpa using c46
                    (try (have c46b1 : decide (x9_2 = false) = false := by simpa using c46))
                    (try (have c46b2 : (x9_2 == false) = false := by simpa using c46))
                    (try (have c46b3 : ¬ (x9_2 = false) := by simpa using c46))
                    clear c46
                    obtain rfl := Option.some.inj H
                    obtain ⟨Ao51, co51, eo51⟩ := Kd.R_slice HO_8.out
                    subst eo51
                    go_wp2
                    repeat (go_quiet (fail); try go_wp2)
                    go_ret
                    exact ⟨by first | rfl | (simp [errW_none, errW_some] <;> rfl) | (simp [*, errW_none, errW_some] <;> rfl), by repeat (first | (with_reducible first | exact HB.out | apply below_alloc | apply pw_below_drewN | apply below_drew1) | exact HB.out)⟩
                · replace c45 := Bool.eq_false_iff.mpr c45
                  subst c45
                  have H1 : (some false) = some r := by rw [if_neg (show ¬ (false = true) by decide)] at H; exact H
                  clear H
                  have H := H1
                  clear H1
                  obtain rfl := Option.some.inj H
                  obtain ⟨Ao52, co52, eo52⟩ := Kd.R_slice HO_8.out
                  subst eo52
                  go_wp2
                  repeat (go_quiet (fail); try go_wp2)
                  go_ret
                  exact ⟨by first | rfl | (simp [errW_none, errW_some] <;> rfl) | (simp [*, errW_none, errW_some] <;> rfl), by repeat (first | (with_reducible first | exact HB.out | apply below_alloc | apply pw_below_drewN | apply below_drew1) | exact HB.out)⟩

/-- THE ONE PURE STATEMENT of meanderlaw07_WindowEnds: yours. -/
def meanderlaw07_WindowEnds.Pure : Prop := ∀ (a0 : Int) (a1 : Int) (a2 : Int), (Lit.int .i64 a0).wf = true → (Lit.int .i64 a1).wf = true → (Lit.int .i64 a2).wf = true → ∃ k, meanderlaw07_WindowEnds.f k a0 a1 a2 = some true
theorem meanderlaw07_WindowEnds.walk (P : meanderlaw07_WindowEnds.Pure) (a0 : Int) (a1 : Int) (a2 : Int) (w : World) (w0 : (Lit.int .i64 a0).wf = true) (w1 : (Lit.int .i64 a1).wf = true) (w2 : (Lit.int .i64 a2).wf = true) :
    Calls Try.prog 7 #[.int .i64 a0, .int .i64 a1, .int .i64 a2] w fun e w' => e = .returned (.bool true) ∧ Below w.heap.size w w' := by
  obtain ⟨k, h⟩ := P a0 a1 a2 w0 w1 w2
  refine (meanderlaw07_WindowEnds.calls k a0 a1 a2 true w h).mono ?_
  rintro e w' ⟨rfl, hd⟩
  exact ⟨rfl, hd⟩

end Go.Proofs.Ytgolagccgndidaa.PAll
