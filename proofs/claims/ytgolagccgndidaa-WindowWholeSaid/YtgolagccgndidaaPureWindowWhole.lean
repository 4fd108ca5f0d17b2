/- Each epoch of a window, and no other one near it, has the window. Conditions: none but the kinds of the arguments. -/
import Derived.Test.YtgolagccgndidaaPAllx5
import Derived.Test.YtgolagccgndidaaWin
namespace Go.Proofs.Ytgolagccgndidaa.Pure
open Go.RowKit Go.Proofs.Ytgolagccgndidaa.PAll Go.Proofs.YtgolagccgndidaaW.PrintWords Go.Proofs.YtgolagccgndidaaW.PrintLast Go.Proofs.YtgolagccgndidaaW.PrintMore
set_option linter.unusedVariables false

theorem whole_l0 {a b k first last : Int} (hm : May a b) (hk0 : 0 ≤ k) (hk1 : k ≤ 9999) (hf : first = b * k) (hl : last = b * k + a - 1) (m : Nat) : ∀ e : Int, 0 ≤ e → last + 4 - e = m →
    Ev (fun r => meanderlaw07_WindowWhole.l0 r a b k true first last e) true := by
  have hab := id hm; unfold May at hab
  have hb := mul_bd (b := b) (k := k) (by omega) (by omega) hk0 (by omega)
  have hb2 : b * k ≤ 20 * k := Int.mul_le_mul_of_nonneg_right (by omega) hk0
  induction m with
  | zero =>
    intro e h0 hd
    exact Ev.step (fun r => meanderlaw07_WindowWhole.l0.eq_2 _ _ _ _ _ _ _ r) (ev_neg (by rw [w_id (by omega) (by omega)]; omega) (ev_some rfl))
  | succ m ih =>
    intro e h0 hd
    refine Ev.step (fun r => meanderlaw07_WindowWhole.l0.eq_2 _ _ _ _ _ _ _ r) (ev_pos (by rw [w_id (by omega) (by omega)]; omega) (Ev.bind (of_s a b e) ?_))
    have hok : Ok a b e := ⟨hm, h0, by omega⟩
    obtain ⟨f1, f2, f3, f4, f5, f6, f7⟩ := low_facts hm h0
    have hmany : (manyS a b e : Int) = e / b - lowS a b e + 1 := by unfold manyS; omega
    have hin := has_iff hm h0 (k := k) hk0
    have e1 : ofS a b e = iota (lowS a b e) (manyS a b e) := by unfold ofS; rw [if_pos hok]
    rw [e1]
    have inner : ∀ (d : Nat) (i : Int) (found : Bool), 0 ≤ i → (manyS a b e : Int) - i = d → found = decide (lowS a b e ≤ k ∧ k < lowS a b e + i) →
        Ev (fun r => meanderlaw07_WindowWhole.l1 r a b k true first last e (iota (lowS a b e) (manyS a b e)) found i) true := by
      intro d
      induction d with
      | zero =>
        intro i found hi hdi hfo
        refine Ev.step (fun r => meanderlaw07_WindowWhole.l1.eq_2 _ _ _ _ _ _ _ _ _ _ r) (ev_neg (by rw [iota_length]; omega) ?_)
        have hnext := ih (e + 1) (by omega) (by omega)
        rw [w_id (x := e + 1) (by omega) (by omega)]
        by_cases h1 : e ≥ first
        · refine ev_pos h1 (ev_neg ?_ hnext)
          rw [hfo, bne_iff_ne, Ne, Decidable.not_not, decide_eq_decide]
          constructor
          · intro h; have := hin.2 (by omega); omega
          · intro h; have := hin.1 (by omega); omega
        · refine ev_neg h1 (ev_neg ?_ hnext)
          rw [hfo, bne_iff_ne, Ne, Decidable.not_not, decide_eq_false_iff_not]
          intro h; have := hin.2 (by omega); omega
      | succ d ihd =>
        intro i found hi hdi hfo
        refine Ev.step (fun r => meanderlaw07_WindowWhole.l1.eq_2 _ _ _ _ _ _ _ _ _ _ r) (ev_pos (by rw [iota_length]; omega) ?_)
        rw [w_id (x := i + 1) (by omega) (by omega)]
        by_cases hw : found = true
        · refine ev_pos hw (ihd (i + 1) true (by omega) (by omega) ?_)
          rw [hfo, decide_eq_true_eq] at hw
          exact (decide_eq_true (by omega)).symm
        · refine ev_neg hw (ev_pos hi (ihd (i + 1) _ (by omega) (by omega) ?_))
          rw [hfo, decide_eq_true_eq] at hw
          rw [rd_iota _ _ _ hi (by omega), Bool.eq_iff_iff, beq_iff_eq, decide_eq_true_eq]
          omega
    exact inner (manyS a b e) 0 false (by omega) (by omega) (by rw [eq_comm, decide_eq_false_iff_not]; omega)
theorem WindowWhole : meanderlaw07_WindowWhole.Pure := by
  intro a b k ha hb hk
  have ha := bd ha
  refine Ev.rounds ?_
  unfold meanderlaw07_WindowWhole.f
  refine Ev.bind shown_s (ev_bind (may_s a b) ?_)
  have hno : Ev (fun r => meanderlaw07_WindowWhole.j0 r a b k true true) true := Ev.step (fun r => meanderlaw07_WindowWhole.j0.eq_2 _ _ _ _ _ r) (ev_pos rfl (ev_some rfl))
  by_cases hm : May a b
  · refine ev_pos (by simpa using hm) ?_
    by_cases h0 : k < 0
    · exact ev_pos h0 hno
    · refine ev_neg h0 ?_
      by_cases h1 : k > 9999
      · rw [decide_eq_true h1]; exact hno
      · rw [decide_eq_false h1]
        have hab := id hm; unfold May at hab
        have hb := mul_bd (b := b) (k := k) (by omega) (by omega) (by omega) (by omega)
        refine Ev.step (fun r => meanderlaw07_WindowWhole.j0.eq_2 _ _ _ _ _ r) (ev_neg (by simp) (ev_bind (first_s _ _) (ev_bind (last_s _ _ _ ha.1 ha.2) ?_)))
        have hf : firstS b k = b * k := if_pos (by omega)
        rw [hf, lastS_in hm (by omega) (by omega), w_id (x := b * k - 3) (by omega) (by omega)]
        exact whole_l0 hm (by omega) (by omega) rfl rfl (b * k + a - 1 + 4 - mx 0 (b * k - 3)).toNat _ (by unfold mx; split <;> omega) (by unfold mx; split <;> omega)
  · exact ev_neg (by simpa using hm) hno

end Go.Proofs.Ytgolagccgndidaa.Pure
