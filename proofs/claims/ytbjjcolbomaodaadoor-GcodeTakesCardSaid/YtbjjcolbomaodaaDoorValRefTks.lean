/- Plain lemmas: what is wrong with a graph, by the document. No program in sight. -/
import Derived.Test.YtbjjcolbomaodaaDoorValGraphTks
import Derived.Test.YtbjjcolbomaodaaDoorValRefNodeTks
import Derived.Test.YtbjjcolbomaodaaDoorRefLocsTks
import Derived.Test.YtbjjcolbomaodaaDoorPTksx21
import Derived.Test.YtbjjcolbomaodaaDoorPTksx17
import Derived.Test.YtbjjcolbomaodaaDoorPTksx19
import Derived.Test.YtbjjcolbomaodaaDoorPTksx20
namespace Go.Proofs.YtbjjcolbomaodaaDoor.Pure
open Go.RowKit Go.Proofs.YtbjjcolbomaodaaDoor.PTks Go.Proofs.YtbjjcolbomaodaaDoorW.PrintWords Go.Proofs.YtbjjcolbomaodaaDoorW.PrintLast Go.Proofs.YtbjjcolbomaodaaDoorW.PrintMore
set_option linter.unusedVariables false
set_option linter.unusedSimpArgs false

section
variable {ns : List S40} {es : List S42}
theorem rlow_s (n : S40) (h : -1000000 ≤ n.f3 ∧ n.f3 ≤ 1000000) : meanderref09_low.f n.f0 n.f1 n.f2 n.f3 = some (lowS n) := by
  unfold meanderref09_low.f
  rw [rin_s _ _ _ _ h]
  rfl
open Classical in
theorem redges_l1 (hns : ns.length ≤ 100000) (hes : es.length ≤ 100000) (hN : NodesP ns) (hE : EdgesP ns es) (m : Nat) : ∀ i : Nat, i ≤ es.length → es.length - i = m → (∀ (j : Nat) (h : j < es.length), j < i → DepthP ns es[j]) →
    Ev (fun k => meanderref09_edges.l1 k i ns es) (if ¬ DepthsP ns es then 12 else 0) := by
  induction m with
  | zero =>
    intro i hi hm hp
    refine Ev.step (fun k => meanderref09_edges.l1.eq_2 _ _ _ k) (ev_neg (by omega) (ev_some ?_))
    rw [if_neg (not_not_intro (show DepthsP ns es from fun e he => by
      obtain ⟨j, hj, rfl⟩ := List.getElem_of_mem he
      exact hp j hj (by omega)))]
  | succ m ih =>
    intro i hi hm hp
    have hlt : i < es.length := by omega
    have hr := edge_range (hE es[i] (List.getElem_mem hlt))
    have hd := nodeP_depth (hN _ (mem_rdN hr.2.2.1 hr.2.2.2))
    refine Ev.step (fun k => meanderref09_edges.l1.eq_2 _ _ _ k) (ev_pos (by omega) (ev_pos (by omega) ?_))
    rw [rdE hlt, w_id (by omega) (by omega)]
    refine ev_pos hr.1 (ev_pos hr.2.1 (ev_pos hr.2.2.1 (ev_pos hr.2.2.2 (ev_bind (rin_s _ _ _ _ (by omega)) ?_))))
    by_cases q : DepthP ns es[i]
    · refine ev_pos q (ih (i + 1) (by omega) (by omega) (fun j hj hji => ?_))
      by_cases h : j < i
      · exact hp j hj h
      · obtain rfl : j = i := by omega
        exact q
    · refine ev_neg q (ev_some ?_)
      rw [if_pos (fun h => q (h _ (List.getElem_mem hlt)))]
open Classical in
theorem redges_l0 (hns : ns.length ≤ 100000) (hes : es.length ≤ 100000) (hN : NodesP ns) (m : Nat) : ∀ i : Nat, i ≤ es.length → es.length - i = m → (∀ (j : Nat) (h : j < es.length), j < i → EdgeP ns es[j]) →
    Ev (fun k => meanderref09_edges.l0 k i ns es) (if ¬ EdgesP ns es then 11 else if ¬ DepthsP ns es then 12 else 0) := by
  induction m with
  | zero =>
    intro i hi hm hp
    have hE : EdgesP ns es := fun e he => by
      obtain ⟨j, hj, rfl⟩ := List.getElem_of_mem he
      exact hp j hj (by omega)
    rw [if_neg (not_not_intro hE)]
    exact Ev.step (fun k => meanderref09_edges.l0.eq_2 _ _ _ k) (ev_neg (by omega) (redges_l1 hns hes hN hE es.length 0 (by omega) (by omega) (fun j _ h => absurd h (by omega))))
  | succ m ih =>
    intro i hi hm hp
    have hlt : i < es.length := by omega
    refine Ev.step (fun k => meanderref09_edges.l0.eq_2 _ _ _ k) (ev_pos (by omega) (ev_pos (by omega) ?_))
    rw [rdE hlt, w_id (by omega) (by omega)]
    have no : ¬ EdgeP ns es[i] → Ev (fun _ : Nat => some (11 : Int)) (if ¬ EdgesP ns es then 11 else if ¬ DepthsP ns es then 12 else 0) := fun q => ev_some (by rw [if_pos (fun h => q (h _ (List.getElem_mem hlt)))])
    refine Ev.bind (ris_s ns es ⟨es[i].f0, -1⟩ hns (decide ((⟨es[i].f0, -1⟩ : S82) ∈ locsFrom 0 ns)) (by simp)) (Ev.bind (ris_s ns es ⟨es[i].f1, es[i].f2⟩ hns (decide ((⟨es[i].f1, es[i].f2⟩ : S82) ∈ locsFrom 0 ns)) (by simp)) ?_)
    by_cases h0 : (⟨es[i].f0, -1⟩ : S82) ∈ locsFrom 0 ns
    · refine ev_pos (decide_eq_true h0) ?_
      by_cases h1 : (⟨es[i].f1, es[i].f2⟩ : S82) ∈ locsFrom 0 ns
      · refine ev_pos (decide_eq_true h1) ?_
        by_cases c : es[i].f2 = -1
        · exact ev_pos c (no (fun h => h.1 c))
        · refine ev_neg c (ih (i + 1) (by omega) (by omega) (fun j hj hji => ?_))
          by_cases h : j < i
          · exact hp j hj h
          · obtain rfl : j = i := by omega
            exact ⟨c, h0, h1⟩
      · exact ev_neg (by simpa using h1) (no (fun h => h1 h.2.2))
    · exact ev_neg (by simpa using h0) (no (fun h => h0 h.2.1))
open Classical in
theorem rports_l1 (hns : ns.length ≤ 100000) (hes : es.length ≤ 100000) (hE : EdgesP ns es) (hP : PortsP ns es) (m : Nat) : ∀ i : Nat, i ≤ (locsFrom 0 ns).length → (locsFrom 0 ns).length - i = m → (∀ (j : Nat) (h : j < (locsFrom 0 ns).length), j < i → RouteP ns es (locsFrom 0 ns)[j]) →
    Ev (fun k => meanderref09_ports.l1 k (locsFrom 0 ns) i ns es) (if ¬ RoutesP ns es then 15 else 0) := by
  have hle := locsFrom_le ns 0
  induction m with
  | zero =>
    intro i hi hm hp
    refine Ev.step (fun k => meanderref09_ports.l1.eq_2 _ _ _ _ k) (ev_neg (by omega) (ev_some ?_))
    rw [if_neg (not_not_intro (show RoutesP ns es from fun e he => by
      obtain ⟨j, hj, rfl⟩ := List.getElem_of_mem he
      exact hp j hj (by omega)))]
  | succ m ih =>
    intro i hi hm hp
    have hlt : i < (locsFrom 0 ns).length := by omega
    have hmem := List.getElem_mem hlt
    have hr := mem_locs_range hmem
    have on : RouteP ns es (locsFrom 0 ns)[i] → Ev (fun k => meanderref09_ports.l1 k (locsFrom 0 ns) ((i : Int) + 1) ns es) (if ¬ RoutesP ns es then 15 else 0) := fun q =>
      ih (i + 1) (by omega) (by omega) (fun j hj hji => by
        by_cases h : j < i
        · exact hp j hj h
        · obtain rfl : j = i := by omega
          exact q)
    have skip : RouteP ns es (locsFrom 0 ns)[i] → Ev (fun k => meanderref09_ports.j2 k (locsFrom 0 ns) i true ns es) (if ¬ RoutesP ns es then 15 else 0) := fun q =>
      Ev.step (fun k => meanderref09_ports.j2.eq_2 _ _ _ _ _ k) (ev_pos rfl (by rw [w_id (by omega) (by omega)]; exact on q))
    refine Ev.step (fun k => meanderref09_ports.l1.eq_2 _ _ _ _ k) (ev_pos (by omega) (ev_pos (by omega) ?_))
    rw [rdL hlt]
    refine ev_pos hr.1 (ev_pos hr.2 ?_)
    by_cases c : (locsFrom 0 ns)[i].f1 = -1
    · exact ev_pos c (skip (fun h => absurd c h))
    refine ev_neg c ?_
    have go : ((nd ns (locsFrom 0 ns)[i].f0).f0 = 6 ∨ (nd ns (locsFrom 0 ns)[i].f0).f0 = 7) → Ev (fun k => meanderref09_ports.j2 k (locsFrom 0 ns) i false ns es) (if ¬ RoutesP ns es then 15 else 0) := fun k67 => by
      have h1 := hP _ hmem c
      refine Ev.step (fun k => meanderref09_ports.j2.eq_2 _ _ _ _ _ k) (ev_neg (by simp) (ev_pos (by omega) (ev_pos (by omega) ?_)))
      rw [rdL hlt, w_id (by omega) (by omega)]
      refine Ev.bind (rprev_s ns es _ _ (by omega)) ?_
      have hx : rd (prevS es (locsFrom 0 ns)[i].f0 (locsFrom 0 ns)[i].f1) 0 ∈ prevS es (locsFrom 0 ns)[i].f0 (locsFrom 0 ns)[i].f1 := by
        have := rdI (es := prevS es (locsFrom 0 ns)[i].f0 (locsFrom 0 ns)[i].f1) (i := 0) (by omega)
        exact this ▸ List.getElem_mem (by omega)
      obtain ⟨e, he, hx1, _⟩ := prev_mem hx
      have hre := edge_range (hE e he)
      rw [hx1] at hre
      refine ev_pos (by omega) (ev_pos hre.1 (ev_pos hre.2.1 ?_))
      by_cases q : (rd_T40 ns (rd (prevS es (locsFrom 0 ns)[i].f0 (locsFrom 0 ns)[i].f1) 0)).f0 = 5
      · exact ev_pos q (on (fun _ _ => q))
      · refine ev_neg q (ev_some ?_)
        rw [if_pos (fun h => q (h _ hmem c k67))]
    by_cases k6 : (rd_T40 ns (locsFrom 0 ns)[i].f0).f0 = 6
    · exact ev_pos k6 (go (.inl k6))
    refine ev_neg k6 ?_
    by_cases k7 : (rd_T40 ns (locsFrom 0 ns)[i].f0).f0 = 7
    · rw [show ((rd_T40 ns (locsFrom 0 ns)[i].f0).f0 != 7) = false from bne_eq_false_iff_eq.mpr k7]
      exact go (.inr k7)
    · rw [show ((rd_T40 ns (locsFrom 0 ns)[i].f0).f0 != 7) = true from bne_iff_ne.mpr k7]
      exact skip (fun _ h => by rcases h with h | h; exact absurd h k6; exact absurd h k7)
open Classical in
theorem rports_l0 (hns : ns.length ≤ 100000) (hes : es.length ≤ 100000) (hE : EdgesP ns es) (m : Nat) : ∀ i : Nat, i ≤ (locsFrom 0 ns).length → (locsFrom 0 ns).length - i = m → (∀ (j : Nat) (h : j < (locsFrom 0 ns).length), j < i → (locsFrom 0 ns)[j].f1 ≠ -1 → (prevS es (locsFrom 0 ns)[j].f0 (locsFrom 0 ns)[j].f1).length = 1) →
    Ev (fun k => meanderref09_ports.l0 k (locsFrom 0 ns) i ns es) (if ¬ PortsP ns es then 13 else if ¬ RoutesP ns es then 15 else 0) := by
  have hle := locsFrom_le ns 0
  induction m with
  | zero =>
    intro i hi hm hp
    have hP : PortsP ns es := fun e he => by
      obtain ⟨j, hj, rfl⟩ := List.getElem_of_mem he
      exact hp j hj (by omega)
    rw [if_neg (not_not_intro hP)]
    exact Ev.step (fun k => meanderref09_ports.l0.eq_2 _ _ _ _ k) (ev_neg (by omega) (rports_l1 hns hes hE hP _ 0 (by omega) rfl (fun j _ h => absurd h (by omega))))
  | succ m ih =>
    intro i hi hm hp
    have hlt : i < (locsFrom 0 ns).length := by omega
    have hmem := List.getElem_mem hlt
    refine Ev.step (fun k => meanderref09_ports.l0.eq_2 _ _ _ _ k) (ev_pos (by omega) (ev_pos (by omega) ?_))
    rw [rdL hlt, w_id (by omega) (by omega)]
    have on : ((locsFrom 0 ns)[i].f1 ≠ -1 → (prevS es (locsFrom 0 ns)[i].f0 (locsFrom 0 ns)[i].f1).length = 1) → Ev (fun k => meanderref09_ports.l0 k (locsFrom 0 ns) ((i : Int) + 1) ns es) (if ¬ PortsP ns es then 13 else if ¬ RoutesP ns es then 15 else 0) := fun q =>
      ih (i + 1) (by omega) (by omega) (fun j hj hji => by
        by_cases h : j < i
        · exact hp j hj h
        · obtain rfl : j = i := by omega
          exact q)
    by_cases c : (locsFrom 0 ns)[i].f1 = -1
    · exact ev_pos c (on (fun h => absurd c h))
    refine ev_neg c (Ev.bind (rprev_s ns es _ _ (by omega)) ?_)
    by_cases q : (prevS es (locsFrom 0 ns)[i].f0 (locsFrom 0 ns)[i].f1).length = 1
    · exact ev_pos (by omega) (on (fun _ => q))
    · refine ev_neg (by omega) (ev_some ?_)
      rw [if_pos (fun h => q (h _ hmem c))]
/-! The document's search. -/
theorem rround_l1 (hns : ns.length ≤ 100000) (hes : es.length ≤ 100000) (hd : ∀ n ∈ ns, -1000000 ≤ n.f3 ∧ n.f3 ≤ 1000000) (hE : ∀ e ∈ es, 0 ≤ e.f0 ∧ e.f0 < (ns.length : Int) ∧ 0 ≤ e.f1 ∧ e.f1 < (ns.length : Int)) (v : Int) (q : Nat) (hq : q < ns.length) (b : Bool) (m : Nat) :
    ∀ (i : Nat) (seen : List Bool), i ≤ es.length → es.length - i = m → seen.length = ns.length →
    Ev (fun k => meanderref09_round.l0 k v (lowS (rd_T40 ns v)) (pass (okB ns (lowS (rd_T40 ns v))) v (pairs (es.drop i)) seen) ((q : Int) + 1) ns es) b →
    Ev (fun k => meanderref09_round.l1 k v (lowS (rd_T40 ns v)) seen q i ns es) b := by
  induction m with
  | zero =>
    intro i seen hi hm hl h
    obtain rfl : i = es.length := by omega
    rw [List.drop_length] at h
    refine Ev.step (fun k => meanderref09_round.l1.eq_2 _ _ _ _ _ _ _ k) (ev_neg (by omega) ?_)
    rw [w_id (by omega) (by omega)]
    exact h
  | succ m ih =>
    intro i seen hi hm hl h
    have hlt : i < es.length := by omega
    have hr := hE es[i] (List.getElem_mem hlt)
    rw [List.drop_eq_getElem_cons hlt] at h
    have hp : pass (okB ns (lowS (rd_T40 ns v))) v (pairs (es[i] :: es.drop (i + 1))) seen = pass (okB ns (lowS (rd_T40 ns v))) v (pairs (es.drop (i + 1))) (relax (okB ns (lowS (rd_T40 ns v))) v seen (es[i].f0, es[i].f1)) := rfl
    rw [hp] at h
    have stay : okB ns (lowS (rd_T40 ns v)) es[i].f1 = false → ∀ x0 x1 x2, Ev (fun k => meanderref09_round.j2 k v (lowS (rd_T40 ns v)) seen q i true ns es x0 x1 x2) b := fun ho x0 x1 x2 => by
      refine Ev.step (fun k => meanderref09_round.j2.eq_2 _ _ _ _ _ _ _ _ _ _ _ k) (ev_pos rfl ?_)
      rw [w_id (by omega) (by omega)]
      refine ih (i + 1) seen (by omega) (by omega) hl ?_
      have : relax (okB ns (lowS (rd_T40 ns v))) v seen (es[i].f0, es[i].f1) = seen := by unfold relax; rw [if_neg (by simp [ho])]
      rw [this] at h; exact h
    have go : okB ns (lowS (rd_T40 ns v)) es[i].f1 = true → Ev (fun k => meanderref09_round.j2 k v (lowS (rd_T40 ns v)) seen q i false ns es es[i].f0 es[i].f1 es[i].f2) b := fun ho => by
      refine Ev.step (fun k => meanderref09_round.j2.eq_2 _ _ _ _ _ _ _ _ _ _ _ k) (ev_neg (by simp) ?_)
      rw [w_id (by omega) (by omega)]
      by_cases hv : es[i].f0 = v
      · refine ev_pos hv (ev_pos hr.2.2.1 (ev_pos (by rw [hl]; exact hr.2.2.2) (ih (i + 1) _ (by omega) (by omega) (by simpa using hl) ?_)))
        have : relax (okB ns (lowS (rd_T40 ns v))) v seen (es[i].f0, es[i].f1) = seen.set es[i].f1.toNat true := by unfold relax; rw [if_pos ⟨ho, .inl hv⟩]
        rw [this] at h; exact h
      · refine ev_neg hv (ev_pos hr.1 (ev_pos (by rw [hl]; exact hr.2.1) ?_))
        by_cases ht : rdOf false seen es[i].f0 = true
        · refine ev_pos ht (ev_pos hr.2.2.1 (ev_pos (by rw [hl]; exact hr.2.2.2) (ih (i + 1) _ (by omega) (by omega) (by simpa using hl) ?_)))
          have : relax (okB ns (lowS (rd_T40 ns v))) v seen (es[i].f0, es[i].f1) = seen.set es[i].f1.toNat true := by unfold relax; rw [if_pos ⟨ho, .inr ht⟩]
          rw [this] at h; exact h
        · refine ev_neg ht (ih (i + 1) seen (by omega) (by omega) hl ?_)
          have : relax (okB ns (lowS (rd_T40 ns v))) v seen (es[i].f0, es[i].f1) = seen := by
            unfold relax; rw [if_neg (fun c => by rcases c.2 with c | c; exact hv c; exact ht c)]
          rw [this] at h; exact h
    refine Ev.step (fun k => meanderref09_round.l1.eq_2 _ _ _ _ _ _ _ k) (ev_pos (by omega) (ev_pos (by omega) ?_))
    rw [rdE hlt]
    refine ev_pos hr.2.2.1 (ev_pos hr.2.2.2 (ev_bind (rlow_s _ (hd _ (mem_rdN hr.2.2.1 hr.2.2.2))) ?_))
    by_cases hlow : lowS (rd_T40 ns es[i].f1) < lowS (rd_T40 ns v)
    · exact ev_pos hlow (stay (by simp [okB, hlow]) _ _ _)
    refine ev_neg hlow ?_
    by_cases hk : (rd_T40 ns es[i].f1).f0 = 10
    · refine ev_pos hk ?_
      by_cases hm3 : (rd_T40 ns es[i].f1).f3 = lowS (rd_T40 ns v)
      · rw [show ((rd_T40 ns es[i].f1).f3 == lowS (rd_T40 ns v)) = true from beq_iff_eq.mpr hm3]
        exact stay (by simp [okB, hk, hm3]) _ _ _
      · rw [show ((rd_T40 ns es[i].f1).f3 == lowS (rd_T40 ns v)) = false from beq_eq_false_iff_ne.mpr hm3]
        exact go (by simp [okB, hk, hm3, hlow])
    · exact ev_neg hk (go (by simp [okB, hk, hlow]))
theorem rround_l0 (hns : ns.length ≤ 100000) (hes : es.length ≤ 100000) (hd : ∀ n ∈ ns, -1000000 ≤ n.f3 ∧ n.f3 ≤ 1000000) (hE : ∀ e ∈ es, 0 ≤ e.f0 ∧ e.f0 < (ns.length : Int) ∧ 0 ≤ e.f1 ∧ e.f1 < (ns.length : Int)) (v : Int) (hv : 0 ≤ v ∧ v < (ns.length : Int)) (m : Nat) :
    ∀ q : Nat, q ≤ ns.length → ns.length - q = m →
    Ev (fun k => meanderref09_round.l0 k v (lowS (rd_T40 ns v)) (passes (okB ns (lowS (rd_T40 ns v))) v (pairs es) ns.length q) q ns es) (tick (passes (okB ns (lowS (rd_T40 ns v))) v (pairs es) ns.length ns.length) v) := by
  induction m with
  | zero =>
    intro q hq hm
    obtain rfl : q = ns.length := by omega
    exact Ev.step (fun k => meanderref09_round.l0.eq_2 _ _ _ _ _ _ k) (ev_neg (by omega) (ev_pos hv.1 (ev_pos (by rw [passes_length]; exact hv.2) (ev_some rfl))))
  | succ m ih =>
    intro q hq hm
    refine Ev.step (fun k => meanderref09_round.l0.eq_2 _ _ _ _ _ _ k) (ev_pos (by omega) ?_)
    exact rround_l1 hns hes hd hE v q (by omega) _ es.length 0 _ (by omega) (by omega) (passes_length ..) (ih (q + 1) (by omega) (by omega))
theorem rround_s (hns : ns.length ≤ 100000) (hes : es.length ≤ 100000) (hd : ∀ n ∈ ns, -1000000 ≤ n.f3 ∧ n.f3 ≤ 1000000) (hE : ∀ e ∈ es, 0 ≤ e.f0 ∧ e.f0 < (ns.length : Int) ∧ 0 ≤ e.f1 ∧ e.f1 < (ns.length : Int)) (v : Int)
    (hv : 0 ≤ v ∧ v < (ns.length : Int)) (b : Bool) (hb : b = true ↔ RoundP ns es v) : Ev (fun k => meanderref09_round.f k ns es v) b := by
  unfold meanderref09_round.f
  refine ev_pos hv.1 (ev_pos hv.2 (ev_bind (rlow_s _ (hd _ (mem_rdN hv.1 hv.2))) (ev_pos (by omega) (ev_pos (by omega) ?_))))
  have h := passes_way (okB ns (lowS (rd_T40 ns v))) v (pairs es) ns.length (fun e he => by obtain ⟨a, b⟩ := e; obtain ⟨e', he', rfl, rfl⟩ := mem_pairs.1 he; have := hE e' he'; exact ⟨this.1, this.2.2.1, this.2.2.2⟩) v hv
  have e : tick (passes (okB ns (lowS (rd_T40 ns v))) v (pairs es) ns.length ns.length) v = b := by
    rw [Bool.eq_iff_iff, hb]; exact h
  rw [← e]
  exact rround_l0 hns hes hd hE v hv ns.length 0 (by omega) (by omega)
open Classical in
theorem rgraph_l1 (hns : ns.length ≤ 100000) (hes : es.length ≤ 100000) (hN : NodesP ns) (hE : EdgesP ns es) (m : Nat) : ∀ i : Nat, i ≤ ns.length → ns.length - i = m → (∀ j : Nat, j < i → (nd ns j).f0 ≠ 10 → ¬ RoundP ns es j) →
    Ev (fun k => meanderref09_Graph.l1 k i ns es) (if ¬ CyclesP ns es then 14 else 0) := by
  induction m with
  | zero =>
    intro i hi hm hp
    refine Ev.step (fun k => meanderref09_Graph.l1.eq_2 _ _ _ k) (ev_neg (by omega) (ev_some ?_))
    rw [if_neg (not_not_intro (show CyclesP ns es from fun j hj => hp j (by omega)))]
  | succ m ih =>
    intro i hi hm hp
    have hlt : i < ns.length := by omega
    refine Ev.step (fun k => meanderref09_Graph.l1.eq_2 _ _ _ k) (ev_pos (by omega) (ev_pos (by omega) ?_))
    rw [w_id (by omega) (by omega)]
    have on : ((nd ns i).f0 ≠ 10 → ¬ RoundP ns es i) → Ev (fun k => meanderref09_Graph.l1 k ((i : Int) + 1) ns es) (if ¬ CyclesP ns es then 14 else 0) := fun q =>
      ih (i + 1) (by omega) (by omega) (fun j hji => by
        by_cases h : j < i
        · exact hp j h
        · obtain rfl : j = i := by omega
          exact q)
    by_cases c : (rd_T40 ns i).f0 = 10
    · exact ev_pos c (on (fun h => absurd c h))
    refine ev_neg c ?_
    have hd : ∀ n ∈ ns, -1000000 ≤ n.f3 ∧ n.f3 ≤ 1000000 := fun n hn => by have := nodeP_depth (hN n hn); omega
    have hE' : ∀ e ∈ es, 0 ≤ e.f0 ∧ e.f0 < (ns.length : Int) ∧ 0 ≤ e.f1 ∧ e.f1 < (ns.length : Int) := fun e he => edge_range (hE e he)
    by_cases q : RoundP ns es i
    · refine Ev.bind (rround_s hns hes hd hE' i ⟨by omega, by omega⟩ true (by simp [q])) (ev_pos rfl (ev_some ?_))
      rw [if_pos (fun h => h i hlt c q)]
    · exact Ev.bind (rround_s hns hes hd hE' i ⟨by omega, by omega⟩ false (by simp [q])) (ev_neg (by simp) (on (fun _ => q)))
open Classical in
theorem rgraph_l0 (hns : ns.length ≤ 100000) (hes : es.length ≤ 100000) (hz : SizeP ns es) (m : Nat) : ∀ i : Nat, i ≤ ns.length → ns.length - i = m → (∀ (j : Nat) (h : j < ns.length), j < i → nodeP ns[j].f0 ns[j].f1 ns[j].f2 ns[j].f3) →
    Ev (fun k => meanderref09_Graph.l0 k i ns es) (graphS ns es) := by
  induction m with
  | zero =>
    intro i hi hm hp
    have hN : NodesP ns := fun e he => by
      obtain ⟨j, hj, rfl⟩ := List.getElem_of_mem he
      exact hp j hj (by omega)
    unfold graphS
    rw [if_neg (not_not_intro hz), if_neg (not_not_intro hN)]
    refine Ev.step (fun k => meanderref09_Graph.l0.eq_2 _ _ _ k) (ev_neg (by omega) ?_)
    have he : Ev (fun k => meanderref09_edges.f k ns es) (if ¬ EdgesP ns es then 11 else if ¬ DepthsP ns es then 12 else 0) := by
      unfold meanderref09_edges.f
      exact redges_l0 hns hes hN es.length 0 (by omega) (by omega) (fun j _ h => absurd h (by omega))
    refine Ev.bind he ?_
    by_cases hE : EdgesP ns es
    · by_cases hD : DepthsP ns es
      · rw [if_neg (not_not_intro hE), if_neg (not_not_intro hD), if_neg (not_not_intro hE), if_neg (not_not_intro hD)]
        have hpo : Ev (fun k => meanderref09_ports.f k ns es) (if ¬ PortsP ns es then 13 else if ¬ RoutesP ns es then 15 else 0) := by
          unfold meanderref09_ports.f
          exact Ev.bind (rlocs_s ns es hns) (rports_l0 hns hes hE _ 0 (by omega) rfl (fun j _ h => absurd h (by omega)))
        refine ev_pos rfl (Ev.bind hpo ?_)
        by_cases hP : PortsP ns es
        · by_cases hR : RoutesP ns es
          · rw [if_neg (not_not_intro hP), if_neg (not_not_intro hR), if_neg (not_not_intro hP), if_neg (not_not_intro hR)]
            exact Ev.step (fun k => meanderref09_Graph.j2.eq_2 _ _ _ k) (ev_pos rfl (rgraph_l1 hns hes hN hE ns.length 0 (by omega) (by omega) (fun j h => absurd h (by omega))))
          · rw [if_neg (not_not_intro hP), if_pos hR, if_neg (not_not_intro hP), if_pos hR]
            exact Ev.step (fun k => meanderref09_Graph.j2.eq_2 _ _ _ k) (ev_neg (by decide) (ev_some rfl))
        · rw [if_pos hP, if_pos hP]
          exact Ev.step (fun k => meanderref09_Graph.j2.eq_2 _ _ _ k) (ev_neg (by decide) (ev_some rfl))
      · rw [if_neg (not_not_intro hE), if_pos hD, if_neg (not_not_intro hE), if_pos hD]
        exact ev_neg (by decide) (Ev.step (fun k => meanderref09_Graph.j2.eq_2 _ _ _ k) (ev_neg (by decide) (ev_some rfl)))
    · rw [if_pos hE, if_pos hE]
      exact ev_neg (by decide) (Ev.step (fun k => meanderref09_Graph.j2.eq_2 _ _ _ k) (ev_neg (by decide) (ev_some rfl)))
  | succ m ih =>
    intro i hi hm hp
    have hlt : i < ns.length := by omega
    refine Ev.step (fun k => meanderref09_Graph.l0.eq_2 _ _ _ k) (ev_pos (by omega) (ev_pos (by omega) ?_))
    rw [rdN hlt, w_id (by omega) (by omega)]
    refine Ev.bind (rnode_s _ _ _ _) ?_
    by_cases q : nodeP ns[i].f0 ns[i].f1 ns[i].f2 ns[i].f3
    · refine ev_pos (decide_eq_true q) (ih (i + 1) (by omega) (by omega) (fun j hj hji => ?_))
      by_cases h : j < i
      · exact hp j hj h
      · obtain rfl : j = i := by omega
        exact q
    · refine ev_neg (by simpa using q) (ev_some ?_)
      unfold graphS
      rw [if_neg (not_not_intro hz), if_pos (fun h => q (h _ (List.getElem_mem hlt)))]
theorem rgraph_s (ns : List S40) (es : List S42) : Ev (fun k => meanderref09_Graph.f k ns es) (graphS ns es) := by
  have bad : ¬ SizeP ns es → Ev (fun k => meanderref09_Graph.j0 k true ns es) (graphS ns es) := fun h =>
    Ev.step (fun k => meanderref09_Graph.j0.eq_2 _ _ _ k) (ev_pos rfl (ev_some (by unfold graphS; rw [if_pos h])))
  unfold meanderref09_Graph.f
  by_cases z1 : (ns.length : Int) < 1
  · exact ev_pos z1 (bad (by unfold SizeP; omega))
  refine ev_neg z1 ?_
  by_cases z2 : (ns.length : Int) > 12
  · exact ev_pos z2 (bad (by unfold SizeP; omega))
  refine ev_neg z2 ?_
  by_cases z3 : (es.length : Int) > 24
  · rw [decide_eq_true z3]; exact bad (by unfold SizeP; omega)
  rw [decide_eq_false z3]
  exact Ev.step (fun k => meanderref09_Graph.j0.eq_2 _ _ _ k) (ev_neg (by simp) (rgraph_l0 (by omega) (by omega) (by unfold SizeP; omega) ns.length 0 (by omega) (by omega) (fun j _ h => absurd h (by omega))))
end
end Go.Proofs.YtbjjcolbomaodaaDoor.Pure
