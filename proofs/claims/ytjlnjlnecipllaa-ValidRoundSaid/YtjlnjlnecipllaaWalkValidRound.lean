/- ValidRound: of a graph that is accepted any walk along edges, from a node back to it, does something to times that is not at most nothing: true, for every graph, node and steps. Conditions: none. -/
import Derived.Test.YtjlnjlnecipllaaNOpen
import Derived.Test.YtjlnjlnecipllaaValShown
import Derived.Test.YtjlnjlnecipllaaValFew
import Derived.Test.YtjlnjlnecipllaaValWalk
import Derived.Test.YtjlnjlnecipllaaPAllRnd
namespace Go.Proofs.Ytjlnjlnecipllaa.Hand
open Go.RowKit Go.Proofs.YtjlnjlnecipllaaW.PrintWords Go.Proofs.YtjlnjlnecipllaaW.PrintLast Go.Proofs.YtjlnjlnecipllaaW.PrintMore Go.Proofs.Ytjlnjlnecipllaa.PAll Go.Proofs.Ytjlnjlnecipllaa.Pure
set_option linter.unusedVariables false
theorem less_round (d s1 s2 s3 s4 s5 s6 s7 : Int) (hd : 0 ≤ d ∧ d ≤ 3) (hs : meanderref02_May.P s1 s2 s3 s4 s5 s6 s7) : meanderref02_LessEq.f s1 s2 s3 s4 s5 s6 s7 d d d 0 0 0 0 = some (decide (s1 = d ∧ s2 = d ∧ s4 ≤ 0 ∧ (0 < s2 → s5 ≤ 0) ∧ (1 < s2 → s6 ≤ 0) ∧ (2 < s2 → s7 ≤ 0))) := by
  unfold meanderref02_LessEq.f
  refine if_pos ⟨hs, ?_, rfl⟩
  unfold meanderref02_May.P
  omega
section
variable {ns : List S23} {es : List S36} {v : Int}
theorem round_j3 (hA : Accept ns es) (hv : 0 ≤ v ∧ v < (ns.length : Int)) (l : List Int) (i : Nat) (hist : List Int) (hh : hist.length = i) (hi : i < 30) (at_ s1 s2 s3 s4 s5 s6 s7 : Int) (I : WalkI ns es v hist at_ s1 s2 s3 s4 s5 s6 s7)
    (IH : ∀ hist at_ s1 s2 s3 s4 s5 s6 s7, hist.length = i + 1 → WalkI ns es v hist at_ s1 s2 s3 s4 s5 s6 s7 → Ev (fun k => meanderlaw09_ValidRound_Rnd.l0 k l true v at_ ((i + 1 : Nat) : Int) ns es s1 s2 s3 s4 s5 s6 s7) true)
    (x : Int) (hx : 0 ≤ x ∧ x < ((nextS es at_).length : Int)) : Ev (fun k => meanderlaw09_ValidRound_Rnd.j3 k l true v i (nextS es at_) x ns es s1 s2 s3 s4 s5 s6 s7) true := by
  have hmem : rd_T47 (nextS es at_) x ∈ nextS es at_ := by
    have : rd_T47 (nextS es at_) ((x.toNat : Nat) : Int) = (nextS es at_)[x.toNat] := rdL (by omega)
    rw [show ((x.toNat : Nat) : Int) = x by omega] at this
    rw [this]; exact List.getElem_mem _
  obtain ⟨e, he, h0, h1⟩ := mem_nextS.1 hmem
  have hf0 : (rd_T47 (nextS es at_) x).f0 = e.f1 := by rw [← h1]
  have hr := edge_range (hA.edges e he)
  have hn := hA.nodes _ (nd_mem ⟨hr.2.2.1, hr.2.2.2⟩)
  have hvn := hA.nodes _ (nd_mem hv)
  refine Ev.step (fun k => meanderlaw09_ValidRound_Rnd.j3.eq_2 _ _ _ _ _ _ _ _ _ _ _ _ _ _ _ k) ?_
  rw [hf0]
  refine ev_pos hx.1 (ev_pos hx.2 (ev_pos hr.2.2.1 (ev_pos hr.2.2.2 (ev_bind (has_s _) ?_))))
  by_cases hk : 1 ≤ (nd ns e.f1).f0 ∧ (nd ns e.f1).f0 ≤ 10
  · refine ev_pos (decide_eq_true hk) ?_
    refine ev_bind (inner_s _ _ _ _ (by have := hn.1; have := hn.2.1; unfold nd at *; omega)) ?_
    obtain ⟨r1, r2, r3, r4, r5, r6, r7, t1, t2, t3, t4, t5, t6, t7, hi', ht, I'⟩ := walk_step hA I (by omega) e he h0 hk
    have hi2 : innerS (rd_T23 ns e.f1).f0 (rd_T23 ns e.f1).f3 = (r1, r2, r3, r4, r5, r6, r7) := hi'
    rw [hi2]
    refine ev_bind ht ?_
    refine ev_pos rfl (ev_pos hv.1 (ev_pos hv.2 (ev_bind (rsame_s _) ?_)))
    have hd : 0 ≤ (rd_T23 ns v).f3 ∧ (rd_T23 ns v).f3 ≤ 3 := ⟨hvn.1, hvn.2.1⟩
    have hsame : sameS (rd_T23 ns v).f3 = ((rd_T23 ns v).f3, (rd_T23 ns v).f3, (rd_T23 ns v).f3, 0, 0, 0, 0) := by unfold sameS; rw [if_pos hd]
    rw [hsame]
    refine ev_bind (less_round _ _ _ _ _ _ _ _ hd (walk_may I' (by simp; omega))) ?_
    have hw : wrap64 ((i : Int) + 1) = ((i + 1 : Nat) : Int) := by rw [w_id (by omega) (by omega)]; omega
    have hgo := IH (hist ++ [e.f1]) e.f1 t1 t2 t3 t4 t5 t6 t7 (by simp [hh]) I'
    rw [← hw] at hgo
    by_cases hc : e.f1 = v
    · refine ev_pos hc ?_
      have hno := walk_round hA (by rw [hc] at I'; exact I') (by simp)
      refine ev_neg (by rw [decide_eq_true_iff]; exact fun h => hno h.2.2.2) hgo
    · exact ev_neg hc hgo
  · exact ev_neg (by rw [decide_eq_true_iff]; exact hk) (ev_some rfl)
theorem round_l0 (hA : Accept ns es) (hv : 0 ≤ v ∧ v < (ns.length : Int)) (l : List Int) (m : Nat) : ∀ (i : Nat) (hist : List Int) (at_ s1 s2 s3 s4 s5 s6 s7 : Int), hist.length = i → i ≤ 30 → 30 - i = m → WalkI ns es v hist at_ s1 s2 s3 s4 s5 s6 s7 →
    Ev (fun k => meanderlaw09_ValidRound_Rnd.l0 k l true v at_ (i : Int) ns es s1 s2 s3 s4 s5 s6 s7) true := by
  have hz := hA.size
  unfold SizeP at hz
  induction m with
  | zero =>
    intro i hist at_ s1 s2 s3 s4 s5 s6 s7 hh hi hm I
    refine Ev.step (fun k => meanderlaw09_ValidRound_Rnd.l0.eq_2 _ _ _ _ _ _ _ _ _ _ _ _ _ _ k) ?_
    by_cases c : (i : Int) < (l.length : Int)
    · refine ev_pos c ?_
      rw [show decide ((i : Int) < 30) = false from decide_eq_false (by omega)]
      refine Ev.step (fun k => meanderlaw09_ValidRound_Rnd.j2.eq_2 _ _ _ _ _ _ _ _ _ _ _ _ _ _ _ k) (ev_neg (by simp) (ev_some rfl))
    · refine ev_neg c ?_
      refine Ev.step (fun k => meanderlaw09_ValidRound_Rnd.j2.eq_2 _ _ _ _ _ _ _ _ _ _ _ _ _ _ _ k) (ev_neg (by simp) (ev_some rfl))
  | succ m ih =>
    intro i hist at_ s1 s2 s3 s4 s5 s6 s7 hh hi hm I
    refine Ev.step (fun k => meanderlaw09_ValidRound_Rnd.l0.eq_2 _ _ _ _ _ _ _ _ _ _ _ _ _ _ k) ?_
    by_cases c : (i : Int) < (l.length : Int)
    · refine ev_pos c ?_
      rw [show decide ((i : Int) < 30) = true from decide_eq_true (by omega)]
      refine Ev.step (fun k => meanderlaw09_ValidRound_Rnd.j2.eq_2 _ _ _ _ _ _ _ _ _ _ _ _ _ _ _ k) (ev_pos rfl (Ev.bind (next_s ns es at_ (by omega)) ?_))
      by_cases hn : ((nextS es at_).length : Int) = 0
      · exact ev_pos hn (ev_some rfl)
      · refine ev_neg hn (ev_pos (by omega) (ev_pos c ?_))
        have hle := nextS_le es at_
        have hb1 := Int.tmod_lt_of_pos (rd l (i : Int)) (show (0 : Int) < ((nextS es at_).length : Int) by omega)
        have hb2 : -((nextS es at_).length : Int) < (rd l (i : Int)).tmod ((nextS es at_).length : Int) := by
          have := Int.tmod_lt_of_pos (-(rd l (i : Int))) (show (0 : Int) < ((nextS es at_).length : Int) by omega)
          rw [Int.neg_tmod] at this
          omega
        have J := round_j3 hA hv l i hist hh (by omega) at_ s1 s2 s3 s4 s5 s6 s7 I (fun hist' at' t1 t2 t3 t4 t5 t6 t7 h1 I1 => ih (i + 1) hist' at' t1 t2 t3 t4 t5 t6 t7 h1 (by omega) (by omega) I1)
        by_cases hneg : (rd l (i : Int)).tmod ((nextS es at_).length : Int) < 0
        · refine ev_pos hneg ?_
          rw [w_id (by omega) (by omega)]
          exact J _ ⟨by omega, by omega⟩
        · exact ev_neg hneg (J _ ⟨by omega, by omega⟩)
    · refine ev_neg c ?_
      refine Ev.step (fun k => meanderlaw09_ValidRound_Rnd.j2.eq_2 _ _ _ _ _ _ _ _ _ _ _ _ _ _ _ k) (ev_neg (by simp) (ev_some rfl))
theorem round_j0 (hA : Accept ns es) (l : List Int) (x : Int) (hv : 0 ≤ x ∧ x < (ns.length : Int)) : Ev (fun k => meanderlaw09_ValidRound_Rnd.j0 k l true x ns es) true := by
  have hvn := hA.nodes _ (nd_mem hv)
  refine Ev.step (fun k => meanderlaw09_ValidRound_Rnd.j0.eq_2 _ _ _ _ _ k) (ev_pos hv.1 (ev_pos hv.2 (ev_bind (rsame_s _) ?_)))
  have hd : 0 ≤ (rd_T23 ns x).f3 ∧ (rd_T23 ns x).f3 ≤ 3 := ⟨hvn.1, hvn.2.1⟩
  have hsame : sameS (rd_T23 ns x).f3 = ((rd_T23 ns x).f3, (rd_T23 ns x).f3, (rd_T23 ns x).f3, 0, 0, 0, 0) := by unfold sameS; rw [if_pos hd]
  rw [hsame]
  refine round_l0 hA hv l 30 0 [] x _ _ _ _ _ _ _ rfl (by omega) rfl ?_
  have hd2 : 0 ≤ (nd ns x).f3 ∧ (nd ns x).f3 ≤ 3 := hd
  exact ⟨trivial, rfl, fun b hb => (by cases hb), rfl, rfl, ⟨hd.1, hd.2, hd.1, hd.2⟩, ⟨hd.1, Int.le_refl _, Int.le_refl _⟩, rfl, by simp, by simp, by simp, ⟨fun _ => rfl, fun _ => rfl, fun _ => rfl⟩, fun _ ⟨b, hb, _⟩ => (by cases hb), fun _ ⟨b, hb, _⟩ => (by cases hb), fun _ ⟨b, hb, _⟩ => (by cases hb)⟩
end
theorem round_s9 (ns : List S23) (es : List S36) (a : Int) (l : List Int) : Ev (fun k => meanderlaw09_ValidRound_Rnd.f k ns es a l) true := by
  unfold meanderlaw09_ValidRound_Rnd.f
  refine Ev.bind shown9_s (ev_bind (few9_s ns es) (Ev.bind (graph_s _ _) ?_))
  by_cases hg : graphS (ns.take 14) (es.take 26) = 0
  · have hA := graphS_accept.1 hg
    have hz := hA.size
    unfold SizeP at hz
    refine ev_pos hg (ev_neg (by simp only; omega) ?_)
    simp only
    have hb1 := Int.tmod_lt_of_pos a (show (0 : Int) < ((ns.take 14).length : Int) by omega)
    have hb2 : -((ns.take 14).length : Int) < a.tmod ((ns.take 14).length : Int) := by
      have := Int.tmod_lt_of_pos (-a) (show (0 : Int) < ((ns.take 14).length : Int) by omega)
      rw [Int.neg_tmod] at this
      omega
    by_cases hneg : a.tmod ((ns.take 14).length : Int) < 0
    · refine ev_pos hneg ?_
      rw [w_id (by omega) (by omega)]
      exact round_j0 hA l _ ⟨by omega, by omega⟩
    · exact ev_neg hneg (round_j0 hA l _ ⟨by omega, by omega⟩)
  · exact ev_neg hg (ev_some rfl)
theorem round_walk {W : World} (G : GOpen.Graph W) (a : Int) (wa : (Lit.int .i64 a).wf = true) (A : Option Addr) (l : List Int) (c : Nat) (hc : l.length ≤ c) (hr : Kd.C (Kd.int .i64) W A l.length l) (hw : ∀ n ∈ l, GOpen.Wf n) : Calls Try.prog 8 #[G.v, .int .i64 a, .slice A l.length c] W fun e w' => e = .returned (.bool true) ∧ Below W.heap.size W w' := by
  obtain ⟨k, hk⟩ := (round_s9 G.l0 G.l1 a l).rounds
  exact meanderlaw09_ValidRound_Rnd.calls k G.A0 G.c0 G.l0 G.A1 G.c1 G.l1 a A c l true W G.r0 G.h0 G.r1 G.h1 hr hc hk
end Go.Proofs.Ytjlnjlnecipllaa.Hand
