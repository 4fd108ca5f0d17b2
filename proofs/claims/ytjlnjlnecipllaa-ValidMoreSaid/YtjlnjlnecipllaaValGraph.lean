/- Plain lemmas: what is wrong with a graph, by the program. No program in sight. -/
import Derived.Test.YtjlnjlnecipllaaValRound
import Derived.Test.YtjlnjlnecipllaaValNode
import Derived.Test.YtjlnjlnecipllaaGraLocs
import Derived.Test.YtjlnjlnecipllaaPAllx6
namespace Go.Proofs.Ytjlnjlnecipllaa.Pure
open Go.RowKit Go.Proofs.Ytjlnjlnecipllaa.PAll Go.Proofs.YtjlnjlnecipllaaW.PrintWords Go.Proofs.YtjlnjlnecipllaaW.PrintLast Go.Proofs.YtjlnjlnecipllaaW.PrintMore
set_option linter.unusedVariables false
set_option linter.unusedSimpArgs false

/-! What is asked of edges, inputs, ways. -/
def nd (ns : List S23) (i : Int) : S23 := rd_T23 ns i
def NodesP (ns : List S23) : Prop := ∀ n ∈ ns, nodeP n.f0 n.f1 n.f2 n.f3
def EdgeP (ns : List S23) (e : S36) : Prop := e.f2 ≠ -1 ∧ (⟨e.f0, -1⟩ : S47) ∈ locsFrom 0 ns ∧ (⟨e.f1, e.f2⟩ : S47) ∈ locsFrom 0 ns
def EdgesP (ns : List S23) (es : List S36) : Prop := ∀ e ∈ es, EdgeP ns e
def DepthP (ns : List S23) (e : S36) : Prop := (nd ns e.f0).f3 = inS (nd ns e.f1).f0 (nd ns e.f1).f3
def DepthsP (ns : List S23) (es : List S36) : Prop := ∀ e ∈ es, DepthP ns e
def PortsP (ns : List S23) (es : List S36) : Prop := ∀ l ∈ locsFrom 0 ns, l.f1 ≠ -1 → (prevS es l.f0 l.f1).length = 1
def RouteP (ns : List S23) (es : List S36) (l : S47) : Prop := l.f1 ≠ -1 → ((nd ns l.f0).f0 = 6 ∨ (nd ns l.f0).f0 = 7) → (nd ns (rd (prevS es l.f0 l.f1) 0)).f0 = 5
def RoutesP (ns : List S23) (es : List S36) : Prop := ∀ l ∈ locsFrom 0 ns, RouteP ns es l
def CyclesP (ns : List S23) (es : List S36) : Prop := ∀ v : Nat, v < ns.length → (nd ns v).f0 ≠ 10 → ¬ RoundP ns es v
def SizeP (ns : List S23) (es : List S36) : Prop := 1 ≤ ns.length ∧ ns.length ≤ 12 ∧ es.length ≤ 24
open Classical in
/-- What is wrong with a graph. -/
noncomputable def graphS (ns : List S23) (es : List S36) : Int :=
  if ¬ SizeP ns es then 3 else if ¬ NodesP ns then 10 else if ¬ EdgesP ns es then 11 else if ¬ DepthsP ns es then 12 else if ¬ PortsP ns es then 13 else if ¬ RoutesP ns es then 15 else if ¬ CyclesP ns es then 14 else 0
structure Accept (ns : List S23) (es : List S36) : Prop where
  size : SizeP ns es
  nodes : NodesP ns
  edges : EdgesP ns es
  depths : DepthsP ns es
  ports : PortsP ns es
  routes : RoutesP ns es
  cycles : CyclesP ns es
theorem graphS_accept {ns : List S23} {es : List S36} : graphS ns es = 0 ↔ Accept ns es := by
  unfold graphS
  constructor
  · intro h
    repeat' split at h
    all_goals first | omega | skip
    exact ⟨Classical.not_not.1 ‹_›, Classical.not_not.1 ‹_›, Classical.not_not.1 ‹_›, Classical.not_not.1 ‹_›, Classical.not_not.1 ‹_›, Classical.not_not.1 ‹_›, Classical.not_not.1 ‹_›⟩
  · intro h
    rw [if_neg (fun c => c h.size), if_neg (fun c => c h.nodes), if_neg (fun c => c h.edges), if_neg (fun c => c h.depths), if_neg (fun c => c h.ports), if_neg (fun c => c h.routes), if_neg (fun c => c h.cycles)]
section
variable {ns : List S23} {es : List S36}
theorem mem_locs_range {l : S47} (h : l ∈ locsFrom 0 ns) : 0 ≤ l.f0 ∧ l.f0 < (ns.length : Int) := by
  obtain ⟨j, hj, h1, _⟩ := mem_locsFrom.1 h
  omega
theorem edge_range {e : S36} (h : EdgeP ns e) : 0 ≤ e.f0 ∧ e.f0 < (ns.length : Int) ∧ 0 ≤ e.f1 ∧ e.f1 < (ns.length : Int) := by
  have h1 := mem_locs_range h.2.1
  have h2 := mem_locs_range h.2.2
  exact ⟨h1.1, h1.2, h2.1, h2.2⟩
theorem prev_mem {a b x : Int} (h : x ∈ prevS es a b) : ∃ e ∈ es, e.f0 = x ∧ e.f1 = a ∧ e.f2 = b := by
  unfold prevS at h
  obtain ⟨e, he, rfl⟩ := List.mem_map.1 h
  obtain ⟨h1, h2⟩ := List.mem_filter.1 he
  exact ⟨e, h1, rfl, of_decide_eq_true h2⟩
theorem n0_s (hns : ns.length ≤ 100000) (b : Bool) (hb : b = true ↔ NodesP ns) (m : Nat) : ∀ i : Nat, i ≤ ns.length → ns.length - i = m → (∀ (j : Nat) (h : j < ns.length), j < i → nodeP ns[j].f0 ns[j].f1 ns[j].f2 ns[j].f3) →
    Ev (fun k => valid_Graph.n0 k ns i) b := by
  induction m with
  | zero =>
    intro i hi hm hp
    refine Ev.step (fun k => valid_Graph.n0.eq_2 _ _ k) (ev_neg (by omega) (ev_some ?_))
    symm; rw [hb]
    intro n hn
    obtain ⟨j, hj, rfl⟩ := List.getElem_of_mem hn
    exact hp j hj (by omega)
  | succ m ih =>
    intro i hi hm hp
    have hlt : i < ns.length := by omega
    refine Ev.step (fun k => valid_Graph.n0.eq_2 _ _ k) (ev_pos (by omega) (ev_pos (by omega) ?_))
    rw [rdN hlt, w_id (by omega) (by omega)]
    refine Ev.bind (node_s _ _ _ _) ?_
    by_cases q : nodeP ns[i].f0 ns[i].f1 ns[i].f2 ns[i].f3
    · refine ev_pos (decide_eq_true q) (ih (i + 1) (by omega) (by omega) (fun j hj hji => ?_))
      by_cases h : j < i
      · exact hp j hj h
      · obtain rfl : j = i := by omega
        exact q
    · refine ev_neg (by simpa using q) (ev_some ?_)
      cases hb' : b with
      | false => rfl
      | true => exact absurd (hb.1 hb' ns[i] (List.getElem_mem hlt)) q
theorem bad1_s (hns : ns.length ≤ 100000) (e : S36) (b : Bool) (hb : b = true ↔ ¬ EdgeP ns e) : Ev (fun k => valid_Graph.bad1 k ns es e) b := by
  unfold valid_Graph.bad1
  by_cases c : e.f2 = -1
  · refine ev_pos c (ev_some ?_)
    symm; rw [hb]; exact fun h => h.1 c
  refine ev_neg c ?_
  by_cases h0 : (⟨e.f0, -1⟩ : S47) ∈ locsFrom 0 ns
  · refine Ev.bind (is_s ns es ⟨e.f0, -1⟩ (by omega) true (by simp [h0])) (ev_pos rfl ?_)
    by_cases h1 : (⟨e.f1, e.f2⟩ : S47) ∈ locsFrom 0 ns
    · refine Ev.bind (is_s ns es ⟨e.f1, e.f2⟩ (by omega) true (by simp [h1])) (ev_some ?_)
      cases hb' : b with
      | false => rfl
      | true => exact absurd ⟨c, h0, h1⟩ (hb.1 hb')
    · refine Ev.bind (is_s ns es ⟨e.f1, e.f2⟩ (by omega) false (by simp [h1])) (ev_some ?_)
      symm; rw [Bool.not_false, hb]; exact fun h => h1 h.2.2
  · refine Ev.bind (is_s ns es ⟨e.f0, -1⟩ (by omega) false (by simp [h0])) (ev_neg (by simp) (ev_some ?_))
    symm; rw [hb]; exact fun h => h0 h.2.1
theorem e1_s (hns : ns.length ≤ 100000) (hes : es.length ≤ 100000) (b : Bool) (hb : b = true ↔ ¬ EdgesP ns es) (m : Nat) : ∀ i : Nat, i ≤ es.length → es.length - i = m → (∀ (j : Nat) (h : j < es.length), j < i → EdgeP ns es[j]) →
    Ev (fun k => valid_Graph.e1 k ns es i) b := by
  induction m with
  | zero =>
    intro i hi hm hp
    refine Ev.step (fun k => valid_Graph.e1.eq_2 _ _ _ k) (ev_neg (by omega) (ev_some ?_))
    cases hb' : b with
    | false => rfl
    | true =>
      refine absurd (fun e he => ?_) (hb.1 hb')
      obtain ⟨j, hj, rfl⟩ := List.getElem_of_mem he
      exact hp j hj (by omega)
  | succ m ih =>
    intro i hi hm hp
    have hlt : i < es.length := by omega
    refine Ev.step (fun k => valid_Graph.e1.eq_2 _ _ _ k) (ev_pos (by omega) (ev_pos (by omega) ?_))
    rw [rdE hlt, w_id (by omega) (by omega)]
    by_cases q : EdgeP ns es[i]
    · refine Ev.bind (bad1_s hns es[i] false (by simp [q])) (ev_neg (by simp) (ih (i + 1) (by omega) (by omega) (fun j hj hji => ?_)))
      by_cases h : j < i
      · exact hp j hj h
      · obtain rfl : j = i := by omega
        exact q
    · refine Ev.bind (bad1_s hns es[i] true (by simp [q])) (ev_pos rfl (ev_some ?_))
      symm; rw [hb]; exact fun h => q (h _ (List.getElem_mem hlt))
theorem e2_s (hns : ns.length ≤ 100000) (hes : es.length ≤ 100000) (hN : NodesP ns) (hE : EdgesP ns es) (b : Bool) (hb : b = true ↔ ¬ DepthsP ns es) (m : Nat) : ∀ i : Nat, i ≤ es.length → es.length - i = m → (∀ (j : Nat) (h : j < es.length), j < i → DepthP ns es[j]) →
    Ev (fun k => valid_Graph.e2 k ns es i) b := by
  induction m with
  | zero =>
    intro i hi hm hp
    refine Ev.step (fun k => valid_Graph.e2.eq_2 _ _ _ k) (ev_neg (by omega) (ev_some ?_))
    cases hb' : b with
    | false => rfl
    | true =>
      refine absurd (fun e he => ?_) (hb.1 hb')
      obtain ⟨j, hj, rfl⟩ := List.getElem_of_mem he
      exact hp j hj (by omega)
  | succ m ih =>
    intro i hi hm hp
    have hlt : i < es.length := by omega
    have hr := edge_range (hE es[i] (List.getElem_mem hlt))
    have hd := nodeP_depth (hN _ (mem_rdN hr.2.2.1 hr.2.2.2))
    refine Ev.step (fun k => valid_Graph.e2.eq_2 _ _ _ k) (ev_pos (by omega) (ev_pos (by omega) ?_))
    rw [rdE hlt, w_id (by omega) (by omega)]
    unfold valid_Graph.bad2
    simp only [if_pos hr, in_s _ _ _ _ (show -1000000 ≤ (rd_T23 ns es[i].f1).f3 ∧ (rd_T23 ns es[i].f1).f3 ≤ 1000000 by omega), Option.bind_some]
    by_cases q : DepthP ns es[i]
    · refine ev_neg ?_ (ih (i + 1) (by omega) (by omega) (fun j hj hji => ?_))
      · rw [bne_iff_ne]; exact fun h => h q
      · by_cases h : j < i
        · exact hp j hj h
        · obtain rfl : j = i := by omega
          exact q
    · refine ev_pos (bne_iff_ne.2 q) (ev_some ?_)
      symm; rw [hb]; exact fun h => q (h _ (List.getElem_mem hlt))
theorem p3_s (hns : ns.length ≤ 100000) (hes : es.length ≤ 100000) (b : Bool) (hb : b = true ↔ ¬ PortsP ns es) (m : Nat) : ∀ i : Nat, i ≤ (locsFrom 0 ns).length → (locsFrom 0 ns).length - i = m → (∀ (j : Nat) (h : j < (locsFrom 0 ns).length), j < i → (locsFrom 0 ns)[j].f1 ≠ -1 → (prevS es (locsFrom 0 ns)[j].f0 (locsFrom 0 ns)[j].f1).length = 1) →
    Ev (fun k => valid_Graph.p3 k ns es (locsFrom 0 ns) i) b := by
  have hle := locsFrom_le ns 0
  induction m with
  | zero =>
    intro i hi hm hp
    refine Ev.step (fun k => valid_Graph.p3.eq_2 _ _ _ _ k) (ev_neg (by omega) (ev_some ?_))
    cases hb' : b with
    | false => rfl
    | true =>
      refine absurd (fun l hl => ?_) (hb.1 hb')
      obtain ⟨j, hj, rfl⟩ := List.getElem_of_mem hl
      exact hp j hj (by omega)
  | succ m ih =>
    intro i hi hm hp
    have hlt : i < (locsFrom 0 ns).length := by omega
    have hmem := List.getElem_mem hlt
    have hr := mem_locs_range hmem
    refine Ev.step (fun k => valid_Graph.p3.eq_2 _ _ _ _ k) (ev_pos (by omega) (ev_pos (by omega) ?_))
    rw [rdL hlt, w_id (by omega) (by omega)]
    have on : ((locsFrom 0 ns)[i].f1 ≠ -1 → (prevS es (locsFrom 0 ns)[i].f0 (locsFrom 0 ns)[i].f1).length = 1) → Ev (fun k => valid_Graph.p3 k ns es (locsFrom 0 ns) ((i : Int) + 1)) b := fun q =>
      ih (i + 1) (by omega) (by omega) (fun j hj hji => by
        by_cases h : j < i
        · exact hp j hj h
        · obtain rfl : j = i := by omega
          exact q)
    by_cases c : (locsFrom 0 ns)[i].f1 = -1
    · exact ev_pos c (on (fun h => absurd c h))
    refine ev_neg c (ev_pos hr (Ev.bind (prev_s ns es _ _ (by omega)) (ev_bind (by unfold valid_Graph.bad3; rfl) ?_)))
    by_cases q : (prevS es (locsFrom 0 ns)[i].f0 (locsFrom 0 ns)[i].f1).length = 1
    · refine ev_neg ?_ (on (fun _ => q))
      rw [bne_iff_ne]; exact fun h => h (by omega)
    · refine ev_pos ?_ (ev_some ?_)
      · rw [bne_iff_ne]; omega
      · symm; rw [hb]; exact fun h => q (h _ hmem c)
theorem p4_s (hns : ns.length ≤ 100000) (hes : es.length ≤ 100000) (hE : EdgesP ns es) (hP : PortsP ns es) (b : Bool) (hb : b = true ↔ ¬ RoutesP ns es) (m : Nat) : ∀ i : Nat, i ≤ (locsFrom 0 ns).length → (locsFrom 0 ns).length - i = m → (∀ (j : Nat) (h : j < (locsFrom 0 ns).length), j < i → RouteP ns es (locsFrom 0 ns)[j]) →
    Ev (fun k => valid_Graph.p4 k ns es (locsFrom 0 ns) i) b := by
  have hle := locsFrom_le ns 0
  induction m with
  | zero =>
    intro i hi hm hp
    refine Ev.step (fun k => valid_Graph.p4.eq_2 _ _ _ _ k) (ev_neg (by omega) (ev_some ?_))
    cases hb' : b with
    | false => rfl
    | true =>
      refine absurd (fun l hl => ?_) (hb.1 hb')
      obtain ⟨j, hj, rfl⟩ := List.getElem_of_mem hl
      exact hp j hj (by omega)
  | succ m ih =>
    intro i hi hm hp
    have hlt : i < (locsFrom 0 ns).length := by omega
    have hmem := List.getElem_mem hlt
    have hr := mem_locs_range hmem
    refine Ev.step (fun k => valid_Graph.p4.eq_2 _ _ _ _ k) (ev_pos (by omega) (ev_pos (by omega) ?_))
    rw [rdL hlt, w_id (by omega) (by omega)]
    have on : RouteP ns es (locsFrom 0 ns)[i] → Ev (fun k => valid_Graph.p4 k ns es (locsFrom 0 ns) ((i : Int) + 1)) b := fun q =>
      ih (i + 1) (by omega) (by omega) (fun j hj hji => by
        by_cases h : j < i
        · exact hp j hj h
        · obtain rfl : j = i := by omega
          exact q)
    by_cases c : (locsFrom 0 ns)[i].f1 = -1
    · exact ev_pos c (on (fun h => absurd c h))
    refine ev_neg c (ev_pos hr (Ev.bind (prev_s ns es _ _ (by omega)) ?_))
    unfold valid_Graph.bad4
    have h1 := hP _ hmem c
    by_cases k67 : (rd_T23 ns (locsFrom 0 ns)[i].f0).f0 = 6 ∨ (rd_T23 ns (locsFrom 0 ns)[i].f0).f0 = 7
    · have hx : rd (prevS es (locsFrom 0 ns)[i].f0 (locsFrom 0 ns)[i].f1) 0 ∈ prevS es (locsFrom 0 ns)[i].f0 (locsFrom 0 ns)[i].f1 := by
        have := rdI (es := prevS es (locsFrom 0 ns)[i].f0 (locsFrom 0 ns)[i].f1) (i := 0) (by omega)
        exact this ▸ List.getElem_mem (by omega)
      obtain ⟨e, he, hx1, _⟩ := prev_mem hx
      have hre := edge_range (hE e he)
      rw [hx1] at hre
      simp only [if_pos k67, if_pos (show 0 < (prevS es (locsFrom 0 ns)[i].f0 (locsFrom 0 ns)[i].f1).length ∧ 0 ≤ rd (prevS es (locsFrom 0 ns)[i].f0 (locsFrom 0 ns)[i].f1) 0 ∧ rd (prevS es (locsFrom 0 ns)[i].f0 (locsFrom 0 ns)[i].f1) 0 < (ns.length : Int) from ⟨by omega, hre.1, hre.2.1⟩), Option.bind_some]
      by_cases q : (rd_T23 ns (rd (prevS es (locsFrom 0 ns)[i].f0 (locsFrom 0 ns)[i].f1) 0)).f0 = 5
      · refine ev_neg ?_ (on (fun _ _ => q))
        rw [bne_iff_ne]; exact fun h => h q
      · refine ev_pos (bne_iff_ne.2 q) (ev_some ?_)
        symm; rw [hb]; exact fun h => q (h _ hmem c k67)
    · simp only [if_neg k67, Option.bind_some]
      exact ev_neg (by simp) (on (fun _ h => absurd h k67))
theorem c5_s (hns : ns.length ≤ 100000) (hes : es.length ≤ 100000) (hN : NodesP ns) (hE : EdgesP ns es) (b : Bool) (hb : b = true ↔ ¬ CyclesP ns es) (m : Nat) : ∀ i : Nat, i ≤ ns.length → ns.length - i = m → (∀ j : Nat, j < i → (nd ns j).f0 ≠ 10 → ¬ RoundP ns es j) →
    Ev (fun k => valid_Graph.c5 k ns es i) b := by
  induction m with
  | zero =>
    intro i hi hm hp
    refine Ev.step (fun k => valid_Graph.c5.eq_2 _ _ _ k) (ev_neg (by omega) (ev_some ?_))
    cases hb' : b with
    | false => rfl
    | true => exact absurd (fun j hj => hp j (by omega)) (hb.1 hb')
  | succ m ih =>
    intro i hi hm hp
    have hlt : i < ns.length := by omega
    refine Ev.step (fun k => valid_Graph.c5.eq_2 _ _ _ k) (ev_pos (by omega) (ev_pos (by omega) ?_))
    rw [w_id (by omega) (by omega)]
    have on : ((nd ns i).f0 ≠ 10 → ¬ RoundP ns es i) → Ev (fun k => valid_Graph.c5 k ns es ((i : Int) + 1)) b := fun q =>
      ih (i + 1) (by omega) (by omega) (fun j hji => by
        by_cases h : j < i
        · exact hp j h
        · obtain rfl : j = i := by omega
          exact q)
    by_cases c : (rd_T23 ns i).f0 = 10
    · exact ev_pos c (on (fun h => absurd c h))
    refine ev_neg c ?_
    have hd : ∀ n ∈ ns, -1000000 ≤ n.f3 ∧ n.f3 ≤ 1000000 := fun n hn => by have := nodeP_depth (hN n hn); omega
    have hE' : ∀ e ∈ es, 0 ≤ e.f0 ∧ e.f0 < (ns.length : Int) ∧ 0 ≤ e.f1 ∧ e.f1 < (ns.length : Int) := fun e he => edge_range (hE e he)
    by_cases q : RoundP ns es i
    · refine Ev.bind (round_s hns hes hd hE' ⟨by omega, by omega⟩ true (by simp [q])) (ev_pos rfl (ev_some ?_))
      symm; rw [hb]; exact fun h => h i hlt c q
    · exact Ev.bind (round_s hns hes hd hE' ⟨by omega, by omega⟩ false (by simp [q])) (ev_neg (by simp) (on (fun _ => q)))
open Classical in
theorem bind_code {f : Nat → Option Bool} {g : Nat → Option Int} {p : Prop} {c r : Int} (hc : c ≠ 0) (h : ∀ b : Bool, (b = true ↔ ¬ p) → Ev f b) (hg : p → Ev g r) (hr : ¬ p → c = r) :
    Ev (fun k => ((f k).bind fun b => some (if b = true then c else 0)).bind fun e => if e = 0 then g k else some e) r := by
  by_cases q : p
  · exact Ev.congr (fun k => by cases f k with
      | none => rfl
      | some b => rfl) (Ev.bind (f := fun k b => if (if b = true then c else 0) = 0 then g k else some (if b = true then c else 0)) (h false (by simp [q])) (ev_pos (by simp) (hg q)))
  · exact Ev.congr (fun k => by cases f k with
      | none => rfl
      | some b => rfl) (Ev.bind (f := fun k b => if (if b = true then c else 0) = 0 then g k else some (if b = true then c else 0)) (h true (by simp [q])) (ev_neg (by simpa using hc) (ev_some (by simpa using hr q))))
theorem graph_s (ns : List S23) (es : List S36) : Ev (fun k => valid_Graph.f k ns es) (graphS ns es) := by
  unfold valid_Graph.f graphS
  by_cases hz : SizeP ns es
  · rw [if_neg (not_not_intro hz)]
    refine ev_neg (by unfold SizeP at hz; omega) ?_
    obtain ⟨z1, z2, z3⟩ := hz
    have hns : ns.length ≤ 100000 := by omega
    have hes : es.length ≤ 100000 := by omega
    by_cases hN : NodesP ns
    · rw [if_neg (not_not_intro hN)]
      refine Ev.bind (n0_s hns true (by simp [hN]) ns.length 0 (by omega) (by omega) (fun j _ h => absurd h (by omega))) (ev_pos rfl ?_)
      unfold valid_Graph.rs valid_Graph.rule
      refine bind_code (p := EdgesP ns es) (by decide) (fun b hb => e1_s hns hes b hb es.length 0 (by omega) (by omega) (fun j _ h => absurd h (by omega))) (fun hE => ?_) (fun h => by rw [if_pos h])
      rw [if_neg (not_not_intro hE)]
      unfold valid_Graph.rs valid_Graph.rule
      refine bind_code (p := DepthsP ns es) (by decide) (fun b hb => e2_s hns hes hN hE b hb es.length 0 (by omega) (by omega) (fun j _ h => absurd h (by omega))) (fun hD => ?_) (fun h => by rw [if_pos h])
      rw [if_neg (not_not_intro hD)]
      unfold valid_Graph.rs valid_Graph.rule
      have hl := locs_s ns es (by omega)
      refine Ev.congr (fun k => by simp only [Option.bind_assoc]) (bind_code (c := 13) (g := fun k => valid_Graph.rs k ns es [3, 4]) (f := fun k => (graph_Locs.f k ns es).bind fun xs => valid_Graph.p3 k ns es xs 0) (p := PortsP ns es) (by decide) (fun b hb => Ev.bind hl (p3_s hns hes b hb _ 0 (by omega) rfl (fun j _ h => absurd h (by omega)))) (fun hP => ?_) (fun h => by rw [if_pos h]))
      rw [if_neg (not_not_intro hP)]
      unfold valid_Graph.rs valid_Graph.rule
      refine Ev.congr (fun k => by simp only [Option.bind_assoc]) (bind_code (c := 15) (g := fun k => valid_Graph.rs k ns es [4]) (f := fun k => (graph_Locs.f k ns es).bind fun xs => valid_Graph.p4 k ns es xs 0) (p := RoutesP ns es) (by decide) (fun b hb => Ev.bind hl (p4_s hns hes hE hP b hb _ 0 (by omega) rfl (fun j _ h => absurd h (by omega)))) (fun hR => ?_) (fun h => by rw [if_pos h]))
      rw [if_neg (not_not_intro hR)]
      unfold valid_Graph.rs valid_Graph.rule
      refine bind_code (p := CyclesP ns es) (by decide) (fun b hb => c5_s hns hes hN hE b hb ns.length 0 (by omega) (by omega) (fun j h => absurd h (by omega))) (fun hC => ?_) (fun h => by rw [if_pos h])
      rw [if_neg (not_not_intro hC)]
      unfold valid_Graph.rs
      exact ev_some rfl
    · rw [if_pos hN]
      exact Ev.bind (n0_s hns false (by simp [hN]) ns.length 0 (by omega) (by omega) (fun j _ h => absurd h (by omega))) (ev_neg (by simp) (ev_some rfl))
  · rw [if_pos hz]
    exact ev_pos (by unfold SizeP at hz; omega) (ev_some rfl)
end
end Go.Proofs.Ytjlnjlnecipllaa.Pure
