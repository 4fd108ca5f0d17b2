/- The ends of an epoch's windows rise by a step each, are not ahead of the epoch, and less than a behind it; and an epoch is the end of a window just if it is among its own. Conditions: none but the kinds of the arguments. -/
import Derived.Test.YtgolagccgndidaaPAllx4
import Derived.Test.YtgolagccgndidaaWin
namespace Go.Proofs.Ytgolagccgndidaa.Pure
open Go.RowKit Go.Proofs.Ytgolagccgndidaa.PAll Go.Proofs.YtgolagccgndidaaW.PrintWords Go.Proofs.YtgolagccgndidaaW.PrintLast Go.Proofs.YtgolagccgndidaaW.PrintMore
set_option linter.unusedVariables false

theorem ends_rd {a b e : Int} (hok : Ok a b e) (i : Int) (h0 : 0 ≤ i) (h1 : i < manyS a b e) : rd (endsS a b e) i = b * (lowS a b e + i) + a - 1 := by
  obtain ⟨f1, f2, f3, f4, f5, f6, f7⟩ := low_facts hok.1 hok.2.1
  have hk := hok.2
  have hr : rd (endsS a b e) i = lastS a b (rd (iota (lowS a b e) (manyS a b e)) i) := by
    unfold endsS ofS rd
    rw [if_pos hok, List.getD_eq_getElem?_getD, List.getD_eq_getElem?_getD, List.getElem?_map, List.getElem?_eq_getElem (by rw [iota_length]; omega)]
    rfl
  rw [hr, rd_iota _ _ _ h0 h1, lastS_in hok.1 (by omega) (by unfold manyS at h1; omega)]
theorem own_facts {a b e : Int} (hm : May a b) (h0 : 0 ≤ e) : ((0 ≤ e - a + 1 ∧ (e - a + 1).tmod b = 0) ↔ b * lowS a b e + a - 1 = e) := by
  obtain ⟨h1, h2, h3, h4⟩ := hm
  unfold lowS
  constructor
  · rintro ⟨h5, h6⟩
    rw [Int.tmod_eq_emod_of_nonneg h5] at h6
    revert h6
    rcases b_cases h3 (by omega) with h | h | h | h | h | h | h | h | h | h | h | h | h | h | h | h | h | h | h | h
    all_goals subst h
    all_goals split
    all_goals omega
  · intro h6
    have h5 : 0 ≤ e - a + 1 := by
      revert h6
      rcases b_cases h3 (by omega) with h | h | h | h | h | h | h | h | h | h | h | h | h | h | h | h | h | h | h | h
      all_goals subst h
      all_goals split
      all_goals omega
    refine ⟨h5, ?_⟩
    rw [Int.tmod_eq_emod_of_nonneg h5]
    revert h6
    rcases b_cases h3 (by omega) with h | h | h | h | h | h | h | h | h | h | h | h | h | h | h | h | h | h | h | h
    all_goals subst h
    all_goals split
    all_goals omega
theorem ends_len {a b e : Int} (hok : Ok a b e) : (endsS a b e).length = manyS a b e := by
  unfold endsS ofS; rw [if_pos hok, List.length_map, iota_length]
theorem ends_loop {a b e : Int} (hok : Ok a b e) (m : Nat) : ∀ (i : Int) (own : Bool), 0 ≤ i → (manyS a b e : Int) - i = m → (own = decide (0 < i ∧ b * lowS a b e + a - 1 = e)) →
    Ev (fun k => meanderlaw07_WindowEnds.l0 k a b e true (endsS a b e) own i) true := by
  obtain ⟨hm, h0, h1⟩ := id hok
  obtain ⟨f1, f2, f3, f4, f5, f6, f7⟩ := low_facts hm h0
  have hab := id hm; unfold May at hab
  have hmany : (manyS a b e : Int) = e / b - lowS a b e + 1 := by unfold manyS; omega
  have hof : (ofS a b e).length = manyS a b e := by unfold ofS; rw [if_pos hok, iota_length]
  induction m with
  | zero =>
    intro i own hi hd ho
    refine Ev.step (fun k => meanderlaw07_WindowEnds.l0.eq_2 _ _ _ _ _ _ _ k) (ev_neg (by rw [ends_len hok]; omega) ?_)
    rw [w_id (x := e - a) (by omega) (by omega), w_id (x := e - a + 1) (by omega) (by omega)]
    have hlast : ∀ x : Bool, x = true → Ev (fun k => if x = true then (window_Of.f k a b e).bind fun t200 => some (((endsS a b e).length : Int) == (t200.length : Int)) else some false) true := fun x hx =>
      ev_pos hx (Ev.bind (of_s a b e) (ev_some (by rw [ends_len hok, hof]; simp)))
    have hown := own_facts (e := e) hm h0
    by_cases hg : e - a + 1 ≥ 0
    · refine ev_pos hg (ev_neg (by omega) (ev_pos rfl (hlast _ ?_)))
      rw [ho, beq_iff_eq, Bool.eq_iff_iff]
      simp only [decide_eq_true_eq, beq_iff_eq]
      constructor
      · intro h; exact (hown.2 h.2).2
      · intro h; exact ⟨by omega, hown.1 ⟨hg, h⟩⟩
    · refine ev_neg hg (ev_pos rfl (hlast _ ?_))
      rw [ho, beq_iff_eq, decide_eq_false_iff_not]
      intro h; have := (hown.2 h.2).1; omega
  | succ m ih =>
    intro i own hi hd ho
    have r1 := ends_rd hok i hi (by omega)
    have hin := (has_iff hm h0 (k := lowS a b e + i) (by omega)).2 (by omega)
    have hmul : b * (lowS a b e + i) = b * lowS a b e + b * i := Int.mul_add _ _ _
    have hbi : 0 ≤ b * i := Int.mul_nonneg (by omega) hi
    refine Ev.step (fun k => meanderlaw07_WindowEnds.l0.eq_2 _ _ _ _ _ _ _ k) (ev_pos (by rw [ends_len hok]; omega) (ev_pos hi ?_))
    rw [r1, w_id (x := e + a) (by omega) (by omega), w_id (x := i + 1) (by omega) (by omega)]
    refine ev_neg (by omega) (ev_neg (by omega) ?_)
    have hnext : ∀ own' : Bool, own' = decide (0 < i + 1 ∧ b * lowS a b e + a - 1 = e) → Ev (fun k => meanderlaw07_WindowEnds.l0 k a b e true (endsS a b e) own' (i + 1)) true := fun own' h => ih (i + 1) own' (by omega) (by omega) h
    have hgo : Ev (fun k => if own = true then meanderlaw07_WindowEnds.l0 k a b e true (endsS a b e) true (i + 1) else meanderlaw07_WindowEnds.l0 k a b e true (endsS a b e) (b * (lowS a b e + i) + a - 1 == e) (i + 1)) true := by
      by_cases hw : own = true
      · refine ev_pos hw (hnext true ?_)
        rw [ho, decide_eq_true_eq] at hw
        exact (decide_eq_true ⟨by omega, hw.2⟩).symm
      · refine ev_neg hw (hnext _ ?_)
        rw [Bool.eq_iff_iff, beq_iff_eq, decide_eq_true_eq]
        rw [ho, decide_eq_true_eq] at hw
        constructor
        · intro h
          refine ⟨by omega, ?_⟩
          rcases Int.lt_or_le 0 i with hp | hp
          · have hmul1 : b * (lowS a b e + i - 1) = b * (lowS a b e + i) - b := by rw [Int.mul_sub, Int.mul_one]
            have := (has_iff hm h0 (k := lowS a b e + i - 1) (by omega)).2 (by omega)
            omega
          · obtain rfl : i = 0 := by omega
            omega
        · intro h
          obtain rfl : i = 0 := by
            rcases Int.lt_or_le 0 i with hp | hp
            · exact absurd ⟨hp, h.2⟩ hw
            · omega
          omega
    by_cases hp : i > 0
    · refine ev_pos hp ?_
      have r2 := ends_rd hok (i - 1) (by omega) (by omega)
      have hmul1 : b * (lowS a b e + (i - 1)) = b * (lowS a b e + i) - b := by rw [show lowS a b e + (i - 1) = lowS a b e + i - 1 by omega, Int.mul_sub, Int.mul_one]
      rw [w_id (x := i - 1) (by omega) (by omega)]
      refine ev_pos (by omega) (ev_pos (by rw [ends_len hok]; omega) ?_)
      rw [r2, w_id (by omega) (by omega)]
      exact ev_pos (by omega) hgo
    · exact ev_neg hp hgo
theorem WindowEnds : meanderlaw07_WindowEnds.Pure := by
  intro a b e ha hb he
  have ha := bd ha
  refine Ev.rounds ?_
  unfold meanderlaw07_WindowEnds.f
  refine Ev.bind shown_s (ev_bind (may_s a b) ?_)
  have hno : ¬ Ok a b e → Ev (fun k => meanderlaw07_WindowEnds.j0 k a b e true true) true := fun h => Ev.step (fun k => meanderlaw07_WindowEnds.j0.eq_2 _ _ _ _ _ k) (ev_pos rfl (ev_pos rfl (Ev.bind (ends_s a b e ha.1 ha.2) (ev_some (by unfold endsS ofS; rw [if_neg h]; rfl)))))
  by_cases hm : May a b
  · refine ev_pos (by simpa using hm) ?_
    by_cases h0 : e < 0
    · exact ev_pos h0 (hno (fun h => by have := h.2; omega))
    · refine ev_neg h0 ?_
      by_cases h1 : e > 1048576
      · rw [decide_eq_true h1]; exact hno (fun h => by have := h.2; omega)
      · rw [decide_eq_false h1]
        have hok : Ok a b e := ⟨hm, by omega, by omega⟩
        refine Ev.step (fun k => meanderlaw07_WindowEnds.j0.eq_2 _ _ _ _ _ k) (ev_neg (by simp) (Ev.bind (ends_s a b e ha.1 ha.2) ?_))
        exact ends_loop hok (manyS a b e) 0 false (by omega) (by omega) (by simp)
  · exact ev_neg (by simpa using hm) (hno (fun h => hm h.1))

end Go.Proofs.Ytgolagccgndidaa.Pure
