/- ValidMore: a graph that is accepted stays so with a Capture more at an output of the depth 0, if there is room; without one of its edges an input has none: true, for every graph and numbers. Conditions: none. -/
import Derived.Test.YtjlnjlnecipllaaGOpen
import Derived.Test.YtjlnjlnecipllaaValShown
import Derived.Test.YtjlnjlnecipllaaValMore
import Derived.Test.YtjlnjlnecipllaaPAllMor
namespace Go.Proofs.Ytjlnjlnecipllaa.Hand
open Go.RowKit Go.Proofs.YtjlnjlnecipllaaW.PrintWords Go.Proofs.YtjlnjlnecipllaaW.PrintLast Go.Proofs.YtjlnjlnecipllaaW.PrintMore Go.Proofs.Ytjlnjlnecipllaa.PAll Go.Proofs.Ytjlnjlnecipllaa.Pure
set_option linter.unusedVariables false
theorem more_j2 (ns : List S23) (es : List S36) (x2 : Int) (hA : Accept ns es) (b : Bool) (hb : b = false → 0 ≤ x2 ∧ x2 < (es.length : Int)) : Ev (fun k => meanderlaw09_ValidMore_Mor.j2 k x2 true b ns es) true := by
  have hz := hA.size
  unfold SizeP at hz
  refine Ev.step (fun k => meanderlaw09_ValidMore_Mor.j2.eq_2 _ _ _ _ _ k) ?_
  cases b with
  | true => exact ev_pos rfl (ev_some rfl)
  | false =>
    obtain ⟨h0, h1⟩ := hb rfl
    obtain ⟨m, rfl⟩ := Int.eq_ofNat_of_zero_le h0
    have hm : m < es.length := by omega
    have w1 : wrap64 ((m : Int) + 1) = (m : Int) + 1 := w_id (by omega) (by omega)
    have l1 : ((es.take m).length : Nat) ≤ 24 := by rw [List.length_take]; omega
    have l2 : ((es.drop (m + 1)).length : Nat) ≤ 24 := by rw [List.length_drop]; omega
    have t1 : ((m : Int)).toNat = m := Int.toNat_natCast m
    have t2 : ((m : Int) + 1).toNat = m + 1 := by omega
    rw [w1, t1, t2]
    have g1 := graph_s ns (es.take m ++ es.drop (m + 1))
    rw [refused_less hA m hm] at g1
    have e1 : ([] : List S36).length + (es.take m).length < 5864062014805 := by simp only [List.length_nil]; omega
    have e2 : ([] ++ es.take m : List S36).length + (es.drop (m + 1)).length < 5864062014805 := by simp only [List.nil_append]; omega
    have e3 : ([] : List S36).length + es.length < 5864062014805 := by simp only [List.length_nil]; omega
    have e4 : ([] ++ es : List S36).length < 5864062014805 := by simp only [List.nil_append]; omega
    refine ev_neg (by simp) ?_
    refine ev_bind rfl ?_
    refine ev_pos h0 ?_
    refine ev_pos (by omega) ?_
    refine ev_bind rfl ?_
    refine ev_pos e1 ?_
    refine ev_bind rfl ?_
    refine ev_pos (by omega) ?_
    refine ev_pos (by omega) ?_
    refine ev_bind rfl ?_
    refine ev_pos e2 ?_
    refine ev_bind rfl ?_
    refine ev_pos e3 ?_
    refine ev_bind rfl ?_
    refine ev_pos h1 ?_
    refine ev_pos e4 ?_
    refine ev_pos rfl ?_
    simp only [List.nil_append]
    refine Ev.bind g1 (ev_pos rfl ?_)
    by_cases h24 : (es.length : Int) ≥ 24
    · exact ev_pos h24 (ev_some rfl)
    · have g2 := graph_s ns (es ++ [es[m]])
      rw [refused_twice hA m hm (by omega)] at g2
      have e : (⟨(rd_T36 es (m : Int)).f0, (rd_T36 es (m : Int)).f1, (rd_T36 es (m : Int)).f2⟩ : S36) = es[m] := by rw [rdE hm]
      rw [e]
      exact ev_neg h24 (Ev.bind g2 (ev_some rfl))
theorem more_j1 (ns : List S23) (es : List S36) (x2 : Int) (hA : Accept ns es) : Ev (fun k => meanderlaw09_ValidMore_Mor.j1 k x2 true ns es) true := by
  refine Ev.step (fun k => meanderlaw09_ValidMore_Mor.j1.eq_2 _ _ _ _ k) ?_
  by_cases h : x2 < 0
  · exact ev_pos h (more_j2 ns es x2 hA true (fun h => by cases h))
  · exact ev_neg h (more_j2 ns es x2 hA _ (fun h' => by have := of_decide_eq_false h'; omega))
theorem more_j0 (ns : List S23) (es : List S36) (x1 x2 : Int) (hA : Accept ns es) (b : Bool) (hb : b = true → 0 ≤ x1 ∧ x1 < (ns.length : Int) ∧ (1 ≤ (rd_T23 ns x1).f0 ∧ (rd_T23 ns x1).f0 ≤ 10) ∧ (rd_T23 ns x1).f3 = 0 ∧ (ns.length : Int) < 12 ∧ (es.length : Int) < 24) :
    Ev (fun k => meanderlaw09_ValidMore_Mor.j0 k x1 x2 true b ns es) true := by
  refine Ev.step (fun k => meanderlaw09_ValidMore_Mor.j0.eq_2 _ _ _ _ _ _ k) ?_
  cases b with
  | false => exact ev_neg (by simp) (more_j1 ns es x2 hA)
  | true =>
    obtain ⟨h0, h1, h2, h3, h4, h5⟩ := hb rfl
    obtain ⟨v, rfl⟩ := Int.eq_ofNat_of_zero_le h0
    have hv : v < ns.length := by omega
    rw [rdN hv] at h2 h3
    have g : graphS (ns ++ [(⟨11, 0, 0, 0⟩ : S23)]) (es ++ [(⟨(v : Int), (ns.length : Int), 0⟩ : S36)]) = 0 := graphS_accept.2 (accept_more hA v hv h2 h3 (by omega) (by omega))
    have g1 := graph_s (ns ++ [(⟨11, 0, 0, 0⟩ : S23)]) (es ++ [(⟨(v : Int), (ns.length : Int), 0⟩ : S36)])
    rw [g] at g1
    have e1 : ([] : List S23).length + ns.length < 4398046511104 := by simp only [List.length_nil]; omega
    have e2 : ([] ++ ns : List S23).length < 4398046511104 := by simp only [List.nil_append]; omega
    have e3 : ([] : List S36).length + es.length < 5864062014805 := by simp only [List.length_nil]; omega
    have e4 : ([] ++ es : List S36).length < 5864062014805 := by simp only [List.nil_append]; omega
    refine ev_pos rfl ?_
    refine ev_bind rfl ?_
    refine ev_pos e1 ?_
    refine ev_bind rfl ?_
    refine ev_pos e2 ?_
    refine ev_bind rfl ?_
    refine ev_pos e3 ?_
    refine ev_bind rfl ?_
    refine ev_pos e4 ?_
    simp only [List.nil_append]
    exact Ev.bind g1 (ev_pos rfl (more_j1 ns es x2 hA))
theorem more_s (ns : List S23) (es : List S36) (x1 x2 : Int) : Ev (fun k => meanderlaw09_ValidMore_Mor.f k ns es x1 x2) true := by
  unfold meanderlaw09_ValidMore_Mor.f
  refine Ev.bind shown9_s (ev_bind (few9_s ns es) ?_)
  dsimp only
  refine Ev.bind (graph_s _ _) ?_
  by_cases hg : graphS (ns.take 14) (es.take 26) = 0
  · refine ev_pos hg ?_
    have hA := graphS_accept.1 hg
    have no := more_j0 (ns.take 14) (es.take 26) x1 x2 hA false (fun h => by cases h)
    by_cases h0 : x1 ≥ 0
    · refine ev_pos h0 ?_
      by_cases h1 : x1 < ((ns.take 14).length : Int)
      · refine ev_pos h1 (ev_pos h0 (ev_bind (has_s _) ?_))
        by_cases h2 : 1 ≤ (rd_T23 (ns.take 14) x1).f0 ∧ (rd_T23 (ns.take 14) x1).f0 ≤ 10
        · refine ev_pos (decide_eq_true h2) ?_
          by_cases h3 : (rd_T23 (ns.take 14) x1).f3 = 0
          · refine ev_pos h3 ?_
            by_cases h4 : ((ns.take 14).length : Int) < 12
            · exact ev_pos h4 (more_j0 _ _ x1 x2 hA _ (fun h => ⟨h0, h1, h2, h3, h4, of_decide_eq_true h⟩))
            · exact ev_neg h4 no
          · exact ev_neg h3 no
        · exact ev_neg (by simpa using h2) no
      · exact ev_neg h1 no
    · exact ev_neg h0 no
  · exact ev_neg hg (ev_some rfl)
theorem more_walk {W : World} (G : GOpen.Graph W) (a : Int) (wa : (Lit.int .i64 a).wf = true) (b : Int) (wb : (Lit.int .i64 b).wf = true) : Calls Try.prog 5 #[G.v, .int .i64 a, .int .i64 b] W fun e w' => e = .returned (.bool true) ∧ Below W.heap.size W w' := by
  obtain ⟨k, hk⟩ := (more_s G.l0 G.l1 a b).rounds
  exact meanderlaw09_ValidMore_Mor.calls k G.A0 G.c0 G.l0 G.A1 G.c1 G.l1 a b true W G.r0 G.h0 G.r1 G.h1 hk
end Go.Proofs.Ytjlnjlnecipllaa.Hand
