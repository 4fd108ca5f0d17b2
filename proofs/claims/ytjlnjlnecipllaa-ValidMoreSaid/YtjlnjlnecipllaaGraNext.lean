/- Plain lemmas on graphs: where edges lead, few. No program in sight. -/
import Derived.Test.YtjlnjlnecipllaaGra
import Derived.Test.YtjlnjlnecipllaaPAllx4
import Derived.Test.YtjlnjlnecipllaaPAllx3
namespace Go.Proofs.Ytjlnjlnecipllaa.Pure
open Go.RowKit Go.Proofs.Ytjlnjlnecipllaa.PAll Go.Proofs.YtjlnjlnecipllaaW.PrintWords Go.Proofs.YtjlnjlnecipllaaW.PrintLast Go.Proofs.YtjlnjlnecipllaaW.PrintMore
set_option linter.unusedVariables false
set_option linter.unusedSimpArgs false

/-- Where a node's edges lead. -/
def nextS (es : List S36) (x : Int) : List S47 := (es.filter (fun e => e.f0 == x)).map (fun e => ⟨e.f1, e.f2⟩)
theorem nextS_le (es : List S36) (x : Int) : (nextS es x).length ≤ es.length := by unfold nextS; rw [List.length_map]; exact List.length_filter_le _ _
theorem nextS_snoc (es : List S36) (e : S36) (x : Int) : nextS (es ++ [e]) x = if e.f0 = x then nextS es x ++ [⟨e.f1, e.f2⟩] else nextS es x := by
  unfold nextS
  rw [List.filter_append, List.map_append]
  by_cases h : e.f0 = x
  · rw [if_pos h]; simp [h]
  · rw [if_neg h]; simp [h]
theorem next_l0 (es : List S36) (x : Int) (hes : es.length ≤ 1000000) (m : Nat) : ∀ i : Nat, i ≤ es.length → es.length - i = m → Ev (fun k => graph_Next.l0 k es x (nextS (es.take i) x) i) (nextS es x) := by
  induction m with
  | zero =>
    intro i hi hd
    obtain rfl : i = es.length := by omega
    exact Ev.step (fun k => graph_Next.l0.eq_2 _ _ _ _ k) (ev_neg (by omega) (ev_some (by rw [List.take_of_length_le (Nat.le_refl _)])))
  | succ m ih =>
    intro i hi hd
    have hlt : i < es.length := by omega
    have h := ih (i + 1) (by omega) (by omega)
    rw [List.take_succ_eq_append_getElem hlt, nextS_snoc] at h
    refine Ev.step (fun k => graph_Next.l0.eq_2 _ _ _ _ k) (ev_pos (by omega) (ev_pos (by omega) ?_))
    rw [rdE hlt, w_id (by omega) (by omega)]
    have hle := nextS_le (es.take i) x
    rw [List.length_take] at hle
    by_cases hx : es[i].f0 = x
    · rw [if_pos hx] at h
      exact ev_pos hx (ev_pos (by omega) h)
    · rw [if_neg hx] at h
      exact ev_neg hx h
theorem next_s (ns : List S23) (es : List S36) (x : Int) (hes : es.length ≤ 1000000) : Ev (fun k => graph_Next.f k ns es x) (nextS es x) := by
  unfold graph_Next.f
  exact next_l0 es x hes es.length 0 (by omega) (by omega)
/-- Where a place's edges come from. -/
def prevS (es : List S36) (a b : Int) : List Int := (es.filter (fun e => decide (e.f1 = a ∧ e.f2 = b))).map (fun e => e.f0)
theorem prevS_le (es : List S36) (a b : Int) : (prevS es a b).length ≤ es.length := by unfold prevS; rw [List.length_map]; exact List.length_filter_le _ _
theorem prevS_snoc (es : List S36) (e : S36) (a b : Int) : prevS (es ++ [e]) a b = if e.f1 = a ∧ e.f2 = b then prevS es a b ++ [e.f0] else prevS es a b := by
  unfold prevS
  rw [List.filter_append, List.map_append]
  by_cases h : e.f1 = a ∧ e.f2 = b
  · rw [if_pos h]; simp [h]
  · rw [if_neg h, List.filter_cons, if_neg (by simpa using h)]; simp
theorem prev_l0 (es : List S36) (a b : Int) (hes : es.length ≤ 1000000) (m : Nat) : ∀ i : Nat, i ≤ es.length → es.length - i = m → Ev (fun k => graph_Prev.l0 k es a b (prevS (es.take i) a b) i) (prevS es a b) := by
  induction m with
  | zero =>
    intro i hi hd
    obtain rfl : i = es.length := by omega
    exact Ev.step (fun k => graph_Prev.l0.eq_2 _ _ _ _ _ k) (ev_neg (by omega) (ev_some (by rw [List.take_of_length_le (Nat.le_refl _)])))
  | succ m ih =>
    intro i hi hd
    have hlt : i < es.length := by omega
    have h := ih (i + 1) (by omega) (by omega)
    rw [List.take_succ_eq_append_getElem hlt, prevS_snoc] at h
    refine Ev.step (fun k => graph_Prev.l0.eq_2 _ _ _ _ _ k) (ev_pos (by omega) (ev_pos (by omega) ?_))
    rw [rdE hlt, w_id (by omega) (by omega)]
    have hle := prevS_le (es.take i) a b
    rw [List.length_take] at hle
    by_cases hx : es[i].f1 = a ∧ es[i].f2 = b
    · rw [if_pos hx] at h
      exact ev_pos hx (ev_pos (by omega) h)
    · rw [if_neg hx] at h
      exact ev_neg hx h
theorem prev_s (ns : List S23) (es : List S36) (a b : Int) (hes : es.length ≤ 1000000) : Ev (fun k => graph_Prev.f k ns es a b) (prevS es a b) := by
  unfold graph_Prev.f
  exact prev_l0 es a b hes es.length 0 (by omega) (by omega)
end Go.Proofs.Ytjlnjlnecipllaa.Pure
