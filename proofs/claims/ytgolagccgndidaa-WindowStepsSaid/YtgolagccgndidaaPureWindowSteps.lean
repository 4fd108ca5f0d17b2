/- The windows of an epoch that is a step further are those of the epoch, each one further, and the first one, if it is new. Conditions: none but the kinds of the arguments. -/
import Derived.Test.YtgolagccgndidaaPAllx3
import Derived.Test.YtgolagccgndidaaWin
namespace Go.Proofs.Ytgolagccgndidaa.Pure
open Go.RowKit Go.Proofs.Ytgolagccgndidaa.PAll Go.Proofs.YtgolagccgndidaaW.PrintWords Go.Proofs.YtgolagccgndidaaW.PrintLast Go.Proofs.YtgolagccgndidaaW.PrintMore
set_option linter.unusedVariables false

theorem low_step {a b e : Int} (hm : May a b) (h0 : 0 ≤ e) : (e + b) / b = e / b + 1 ∧ (lowS a b (e + b) = lowS a b e + 1 ∨ lowS a b (e + b) = 0 ∧ lowS a b e = 0) := by
  obtain ⟨h1, h2, h3, h4⟩ := hm
  unfold lowS
  rcases b_cases h3 (by omega) with h | h | h | h | h | h | h | h | h | h | h | h | h | h | h | h | h | h | h | h
  all_goals subst h
  all_goals repeat' split
  all_goals omega
theorem steps_l0 {lo lo' : Int} {n : Nat} {d : Nat} (hd : d ≤ 1) (hl : lo' + d = lo + 1) (h0 : 0 ≤ lo) (h1 : lo ≤ 2000000) (hn : n < 1000) (m : Nat) : ∀ i : Int, 0 ≤ i → (n : Int) - i = m →
    Ev (fun k => meanderlaw07_WindowSteps.l0 k true (iota lo n) (iota lo' (n + d)) d i) true := by
  induction m with
  | zero => intro i hi hd; exact Ev.step (fun k => meanderlaw07_WindowSteps.l0.eq_2 _ _ _ _ _ k) (ev_neg (by rw [iota_length]; omega) (ev_some rfl))
  | succ m ih =>
    intro i hi hdi
    refine Ev.step (fun k => meanderlaw07_WindowSteps.l0.eq_2 _ _ _ _ _ k) (ev_pos (by rw [iota_length]; omega) ?_)
    rw [w_id (x := i + d) (by omega) (by omega), rd_iota _ _ _ (by omega) (by omega), rd_iota _ _ _ hi (by omega), w_id (x := lo + i + 1) (by omega) (by omega), w_id (x := i + 1) (by omega) (by omega)]
    exact ev_pos (by omega) (ev_pos (by rw [iota_length]; omega) (ev_pos hi (ev_pos (by omega) (ih (i + 1) (by omega) (by omega)))))
theorem WindowSteps : meanderlaw07_WindowSteps.Pure := by
  intro a b e ha hb he
  have ha := bd ha
  refine Ev.rounds ?_
  unfold meanderlaw07_WindowSteps.f
  refine Ev.bind shown_s (ev_bind (may_s a b) ?_)
  have hno : Ev (fun k => meanderlaw07_WindowSteps.j0 k a b e true true) true := Ev.step (fun k => meanderlaw07_WindowSteps.j0.eq_2 _ _ _ _ _ k) (ev_pos rfl (ev_some rfl))
  by_cases hm : May a b
  · refine ev_pos (by simpa using hm) ?_
    by_cases h0 : e < 0
    · exact ev_pos h0 hno
    · refine ev_neg h0 ?_
      by_cases h1 : e ≥ 524288
      · rw [decide_eq_true h1]; exact hno
      · rw [decide_eq_false h1]
        refine Ev.step (fun k => meanderlaw07_WindowSteps.j0.eq_2 _ _ _ _ _ k) (ev_neg (by simp) (Ev.bind (of_s a b e) ?_))
        have hab := id hm; unfold May at hab
        rw [w_id (x := e + b) (by omega) (by omega)]
        refine Ev.bind (of_s a b (e + b)) ?_
        obtain ⟨f1, f2, f3, f4, f5, f6, f7⟩ := low_facts (e := e) hm (by omega)
        obtain ⟨g1, g2, g3, g4, g5, g6, g7⟩ := low_facts (e := e + b) hm (by omega)
        obtain ⟨s1, s2⟩ := low_step (e := e) hm (by omega)
        have e1 : ofS a b e = iota (lowS a b e) (manyS a b e) := by unfold ofS; rw [if_pos ⟨hm, by omega, by omega⟩]
        have e2 : ofS a b (e + b) = iota (lowS a b (e + b)) (manyS a b (e + b)) := by unfold ofS; rw [if_pos ⟨hm, by omega, by omega⟩]
        obtain ⟨d, hd, hn, hl, hz⟩ : ∃ d : Nat, d ≤ 1 ∧ manyS a b (e + b) = manyS a b e + d ∧ lowS a b (e + b) + d = lowS a b e + 1 ∧ (d = 1 → lowS a b (e + b) = 0) := by
          unfold manyS
          rcases s2 with s2 | s2
          · exact ⟨0, by omega, by omega, by omega, by omega⟩
          · exact ⟨1, by omega, by omega, by omega, fun _ => s2.1⟩
        have hmany : manyS a b e < 1000 := by unfold manyS; omega
        rw [e1, e2, hn, iota_length, iota_length, w_id (x := ((manyS a b e + d : Nat) : Int) - (manyS a b e : Nat)) (by omega) (by omega), show ((manyS a b e + d : Nat) : Int) - (manyS a b e : Nat) = (d : Int) by omega]
        have hgo : Ev (fun k => meanderlaw07_WindowSteps.j1 k true (iota (lowS a b e) (manyS a b e)) (iota (lowS a b (e + b)) (manyS a b e + d)) d false) true :=
          Ev.step (fun k => meanderlaw07_WindowSteps.j1.eq_2 _ _ _ _ _ k) (ev_neg (by simp) (steps_l0 hd hl f1 (by omega) hmany (manyS a b e) 0 (by omega) (by omega)))
        refine ev_neg (by omega) (ev_neg (by omega) ?_)
        by_cases h2 : (d : Int) = 1
        · refine ev_pos h2 (ev_pos (by omega) ?_)
          have hb0 : (rd (iota (lowS a b (e + b)) (manyS a b e + d)) 0 != 0) = false := by
            rw [rd_iota _ _ _ (by omega) (by omega), hz (by omega)]; rfl
          rw [hb0]; exact hgo
        · exact ev_neg h2 hgo
  · exact ev_neg (by simpa using hm) hno

end Go.Proofs.Ytgolagccgndidaa.Pure
