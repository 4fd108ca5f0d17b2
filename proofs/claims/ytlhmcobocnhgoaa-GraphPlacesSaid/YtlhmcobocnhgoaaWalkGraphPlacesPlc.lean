/- GraphPlaces: the places of any graph, where any node's edges lead, and where any place's come from, are as the document says: true, for every graph and place. Conditions: none. -/
import Derived.Test.YtlhmcobocnhgoaaGOpenPlc
import Derived.Test.YtlhmcobocnhgoaaRefPlacesPlc
import Derived.Test.YtlhmcobocnhgoaaGraShownPlc
import Derived.Test.YtlhmcobocnhgoaaGraFewPlc
import Derived.Test.YtlhmcobocnhgoaaPPlcx6
namespace Go.Proofs.Ytlhmcobocnhgoaa.Hand
open Go.RowKit Go.Proofs.YtlhmcobocnhgoaaW.PrintWords Go.Proofs.YtlhmcobocnhgoaaW.PrintLast Go.Proofs.YtlhmcobocnhgoaaW.PrintMore Go.Proofs.Ytlhmcobocnhgoaa.PPlc Go.Proofs.Ytlhmcobocnhgoaa.Pure
set_option linter.unusedVariables false
open Classical in
theorem places_l0 (ns : List S38) (es : List S35) (a b : Int) (hns : ns.length ≤ 20) (hes : es.length ≤ 40) (m : Nat) : ∀ i : Nat, i ≤ ns.length → ns.length - i = m → (∀ (j : Nat) (h : j < ns.length), j < i → -1000 ≤ ns[j].f3 ∧ ns[j].f3 ≤ 1000) →
    Ev (fun k => meanderlaw08_GraphPlaces.l0 k true i ns es a b) true := by
  induction m with
  | zero =>
    intro i hi hm hp
    have hd : ∀ n ∈ ns, -1000000 ≤ n.f3 ∧ n.f3 ≤ 1000000 := fun n hn => by
      obtain ⟨j, hj, rfl⟩ := List.getElem_of_mem hn
      have := hp j hj (by omega)
      omega
    have hle := locsFrom_le ns 0
    have hnx := nextS_le es a
    have hpv := prevS_le es a b
    refine Ev.step (fun k => meanderlaw08_GraphPlaces.l0.eq_2 _ _ _ _ _ _ k) (ev_neg (by omega) ?_)
    refine Ev.bind (locs_s ns es (by omega)) (Ev.bind (rlocs_s ns es (by omega)) (Ev.bind (same_s _ (by omega)) ?_))
    refine Ev.bind (next_s ns es a (by omega)) (Ev.bind (rnext_s ns es a (by omega)) (Ev.bind (same_s _ (by omega)) ?_))
    refine Ev.bind (prev_s ns es a b (by omega)) (Ev.bind (rprev_s ns es a b (by omega)) (Ev.bind (numbers_s _ (by omega)) ?_))
    refine ev_pos rfl (ev_pos rfl (ev_pos rfl (ev_pos rfl ?_)))
    refine Ev.bind (is_s ns es ⟨a, b⟩ (by omega) (decide ((⟨a, b⟩ : S23) ∈ locsFrom 0 ns)) (by simp)) (Ev.bind (ris_s ns es ⟨a, b⟩ (by omega) (decide ((⟨a, b⟩ : S23) ∈ locsFrom 0 ns)) (by simp)) (ev_pos (by simp) ?_))
    exact Ev.bind (depth_s ns es (by omega) hd a b) (Ev.bind (rdepth_at ns es (by omega) hd a b) (ev_some (by simp)))
  | succ m ih =>
    intro i hi hm hp
    have hlt : i < ns.length := by omega
    refine Ev.step (fun k => meanderlaw08_GraphPlaces.l0.eq_2 _ _ _ _ _ _ k) (ev_pos (by omega) (ev_pos (by omega) ?_))
    rw [rdN hlt, w_id (by omega) (by omega)]
    by_cases h1 : ns[i].f3 < -1000
    · exact ev_pos h1 (ev_some rfl)
    refine ev_neg h1 ?_
    by_cases h2 : ns[i].f3 > 1000
    · exact ev_pos h2 (ev_some rfl)
    refine ev_neg h2 (ih (i + 1) (by omega) (by omega) (fun j hj hji => ?_))
    by_cases h : j < i
    · exact hp j hj h
    · obtain rfl : j = i := by omega
      omega
theorem places_s (ns : List S38) (es : List S35) (a b : Int) : Ev (fun k => meanderlaw08_GraphPlaces.f k ns es a b) true := by
  unfold meanderlaw08_GraphPlaces.f
  refine Ev.bind shown_s (ev_bind (few_s ns es) ?_)
  exact places_l0 (ns.take 20) (es.take 40) a b (by rw [List.length_take]; omega) (by rw [List.length_take]; omega) _ 0 (by omega) rfl (fun j _ h => absurd h (by omega))
theorem places_walk {W : World} (G : GOpen.Graph W) (a b : Int) (wl : GOpen.Wf a ∧ GOpen.Wf b) : Calls Try.prog 5 #[G.v, .agg #[.int .i64 a, .int .i64 b]] W fun e w' => e = .returned (.bool true) ∧ Below W.heap.size W w' := by
  obtain ⟨k, hk⟩ := (places_s G.l0 G.l1 a b).rounds
  exact meanderlaw08_GraphPlaces.calls k G.A0 G.c0 G.l0 G.A1 G.c1 G.l1 a b true W G.r0 G.h0 G.r1 G.h1 hk
end Go.Proofs.Ytlhmcobocnhgoaa.Hand
