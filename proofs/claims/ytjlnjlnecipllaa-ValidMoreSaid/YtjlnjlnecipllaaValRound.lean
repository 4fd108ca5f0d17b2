/- Plain lemmas: the search for a way round, of the program. No program in sight. -/
import Derived.Test.YtjlnjlnecipllaaWayT
import Derived.Test.YtjlnjlnecipllaaGraNext
import Derived.Test.YtjlnjlnecipllaaPAllx5
import Derived.Test.YtjlnjlnecipllaaPAllx4
namespace Go.Proofs.Ytjlnjlnecipllaa.Pure
open Go.RowKit Go.Proofs.Ytjlnjlnecipllaa.PAll Go.Proofs.YtjlnjlnecipllaaW.PrintWords Go.Proofs.YtjlnjlnecipllaaW.PrintLast Go.Proofs.YtjlnjlnecipllaaW.PrintMore
set_option linter.unusedVariables false
set_option linter.unusedSimpArgs false

/-- The lesser depth. -/
def lowS (n : S23) : Int := mn (inS n.f0 n.f3) n.f3
theorem low_s (n : S23) (h : -1000000 ≤ n.f3 ∧ n.f3 ≤ 1000000) : valid_low.f n.f0 n.f1 n.f2 n.f3 = some (lowS n) := by
  unfold valid_low.f
  rw [in_s _ _ _ _ h]
  rfl
/-- Edges as pairs; which nodes may be passed. -/
def pairs (es : List S36) : List (Int × Int) := es.map (fun e => (e.f0, e.f1))
theorem mem_pairs {es : List S36} {a b : Int} : (a, b) ∈ pairs es ↔ ∃ e ∈ es, e.f0 = a ∧ e.f1 = b := by
  unfold pairs; simp
def okB (ns : List S23) (m : Int) (b : Int) : Bool := !(decide (lowS (rd_T23 ns b) < m) || (decide ((rd_T23 ns b).f0 = 10) && decide ((rd_T23 ns b).f3 = m)))
/-- A way round. -/
def RoundP (ns : List S23) (es : List S36) (v : Int) : Prop := Way (pairs es) (fun b => okB ns (lowS (rd_T23 ns v)) b = true) v v

theorem mem_nextS {es : List S36} {x : Int} {l : S47} : l ∈ nextS es x ↔ ∃ e ∈ es, e.f0 = x ∧ (⟨e.f1, e.f2⟩ : S47) = l := by
  unfold nextS; simp [and_assoc]
theorem rdI {es : List Int} {i : Nat} (h : i < es.length) : rd es (i : Int) = es[i] := by
  unfold rd; rw [List.getD_eq_getElem?_getD]; simp [List.getElem?_eq_getElem h]
theorem mem_rdN {ns : List S23} {i : Int} (h0 : 0 ≤ i) (h1 : i < (ns.length : Int)) : rd_T23 ns i ∈ ns := by
  have : rd_T23 ns ((i.toNat : Nat) : Int) = ns[i.toNat] := rdN (by omega)
  rw [show ((i.toNat : Nat) : Int) = i by omega] at this
  rw [this]; exact List.getElem_mem _
section
variable {ns : List S23} {es : List S36} {v : Int}
/-- What holds of the search at a round's head; at: the node at work (or none), its places from i on are not yet seen to. -/
structure Bfs (ns : List S23) (es : List S36) (v : Int) (seen : List Bool) (todo : List Int) (skip : Int → Prop) : Prop where
  len : seen.length = ns.length
  way : ∀ x, 0 ≤ x → tick seen x = true → Way (pairs es) (fun b => okB ns (lowS (rd_T23 ns v)) b = true) v x
  que : ∀ x ∈ todo, (x = v ∨ Way (pairs es) (fun b => okB ns (lowS (rd_T23 ns v)) b = true) v x) ∧ 0 ≤ x ∧ x < (ns.length : Int)
  notv : tick seen v = false
  closed : ∀ e ∈ es, (e.f0 = v ∨ tick seen e.f0 = true) → e.f0 ∉ todo → ¬ skip e.f0 → okB ns (lowS (rd_T23 ns v)) e.f1 = true → tick seen e.f1 = true
theorem bfs_l1 (hns : ns.length ≤ 100000) (hes : es.length ≤ 100000) (hd : ∀ n ∈ ns, -1000000 ≤ n.f3 ∧ n.f3 ≤ 1000000) (hE : ∀ e ∈ es, 0 ≤ e.f0 ∧ e.f0 < (ns.length : Int) ∧ 0 ≤ e.f1 ∧ e.f1 < (ns.length : Int))
    (hv : 0 ≤ v ∧ v < (ns.length : Int)) (b : Bool) (hb : b = true ↔ RoundP ns es v) (M : Nat)
    (IH : ∀ seen todo, Bfs ns es v seen todo (fun _ => False) → ns.length - cnt seen + todo.length ≤ M → todo.length ≤ ns.length + M → Ev (fun k => valid_round.l0 k v (lowS (rd_T23 ns v)) seen todo ns es) b)
    (at_ : Int) (hat : (at_ = v ∨ Way (pairs es) (fun b => okB ns (lowS (rd_T23 ns v)) b = true) v at_) ∧ 0 ≤ at_ ∧ at_ < (ns.length : Int)) (hM : M ≤ 1000000) (m : Nat) :
    ∀ (i : Nat) (seen : List Bool) (todo : List Int), i ≤ (nextS es at_).length → (nextS es at_).length - i = m → Bfs ns es v seen todo (fun a => a = at_) → ns.length - cnt seen + todo.length ≤ M → 
    (∀ (j : Nat) (h : j < (nextS es at_).length), j < i → okB ns (lowS (rd_T23 ns v)) (nextS es at_)[j].f0 = true → tick seen (nextS es at_)[j].f0 = true) →
    Ev (fun k => valid_round.l1 k v (lowS (rd_T23 ns v)) seen todo (nextS es at_) ((nextS es at_).length : Int) i ns es) b := by
  have hle := nextS_le es at_
  induction m with
  | zero =>
    intro i seen todo hi hm B hc hG
    refine Ev.step (fun k => valid_round.l1.eq_2 _ _ _ _ _ _ _ _ _ k) (ev_neg (by omega) ?_)
    refine IH seen todo ⟨B.len, B.way, B.que, B.notv, fun e he h1 h2 _ h4 => ?_⟩ hc (by omega)
    by_cases ha : e.f0 = at_
    · have hmem : (⟨e.f1, e.f2⟩ : S47) ∈ nextS es at_ := mem_nextS.2 ⟨e, he, ha, rfl⟩
      obtain ⟨j, hj, hje⟩ := List.getElem_of_mem hmem
      have := hG j hj (by omega)
      rw [hje] at this
      exact this h4
    · exact B.closed e he h1 h2 ha h4
  | succ m ih =>
    intro i seen todo hi hm B hc hG
    have hlt : i < (nextS es at_).length := by omega
    obtain ⟨e, he, hea, hel⟩ := mem_nextS.1 (List.getElem_mem hlt)
    have hr := hE e he
    have hl0 : (nextS es at_)[i].f0 = e.f1 := by rw [← hel]
    have hmem := mem_rdN hr.2.2.1 hr.2.2.2
    -- the step on, nothing new
    have skip : (okB ns (lowS (rd_T23 ns v)) e.f1 = true → tick seen e.f1 = true) → ∀ x0 x1, Ev (fun k => valid_round.j2 k v (lowS (rd_T23 ns v)) seen todo (nextS es at_) ((nextS es at_).length : Int) i true ns es x0 x1) b := fun hk x0 x1 => by
      refine Ev.step (fun k => valid_round.j2.eq_2 _ _ _ _ _ _ _ _ _ _ _ _ k) (ev_pos rfl ?_)
      rw [w_id (by omega) (by omega)]
      refine ih (i + 1) seen todo (by omega) (by omega) B hc (fun j hj hji => ?_)
      by_cases hjl : j < i
      · exact hG j hj hjl
      · obtain rfl : j = i := by omega
        rw [hl0]; exact hk
    refine Ev.step (fun k => valid_round.l1.eq_2 _ _ _ _ _ _ _ _ _ k) (ev_pos (by omega) (ev_pos (by omega) (ev_pos (by omega) ?_)))
    rw [rdL hlt, hl0]
    refine ev_pos hr.2.2.1 (ev_pos hr.2.2.2 (ev_pos (by rw [B.len]; exact hr.2.2.2) ?_))
    by_cases ht : rdOf false seen e.f1 = true
    · refine ev_pos ht ?_
      rw [ht]
      exact skip (fun _ => ht) _ _
    refine ev_neg ht (ev_bind (low_s _ (hd _ hmem)) ?_)
    have htick : tick seen e.f1 = false := by simpa [tick, rdOf] using ht
    -- the step on, a node that may be passed
    have go : okB ns (lowS (rd_T23 ns v)) e.f1 = true → Ev (fun k => valid_round.j2 k v (lowS (rd_T23 ns v)) seen todo (nextS es at_) ((nextS es at_).length : Int) i false ns es e.f1 ((nextS es at_)[i].f1)) b := fun hok => by
      have hway : Way (pairs es) (fun b => okB ns (lowS (rd_T23 ns v)) b = true) v e.f1 := by
        have hp : (at_, e.f1) ∈ pairs es := mem_pairs.2 ⟨e, he, hea, rfl⟩
        rcases hat.1 with h | h
        · subst h; exact .one hp hok
        · exact .step h hp hok
      refine Ev.step (fun k => valid_round.j2.eq_2 _ _ _ _ _ _ _ _ _ _ _ _ k) (ev_neg (by simp) ?_)
      by_cases hev : e.f1 = v
      · refine ev_pos hev (ev_pos hv.1 (ev_pos (by rw [B.len]; exact hv.2) (ev_some ?_)))
        have h1 : b = true := hb.2 (by unfold RoundP; rw [hev] at hway; exact hway)
        have h2 : tick (seen.set v.toNat true) v = true := (tick_set hv.1 hv.1).2 (.inl ⟨rfl, by rw [B.len]; exact hv.2⟩)
        rw [h1]; exact h2
      · have hlen : todo.length ≤ M := by omega
        refine ev_neg hev (ev_pos hr.2.2.1 (ev_pos (by rw [B.len]; exact hr.2.2.2) (ev_pos (by omega) ?_)))
        rw [w_id (by omega) (by omega)]
        have hset : ∀ x, 0 ≤ x → (tick (seen.set e.f1.toNat true) x = true ↔ (x = e.f1 ∧ e.f1 < (seen.length : Int)) ∨ tick seen x = true) := fun x hx => tick_set hr.2.2.1 hx
        have hin : e.f1 < (seen.length : Int) := by rw [B.len]; exact hr.2.2.2
        have hcnt : cnt (seen.set e.f1.toNat true) = cnt seen + 1 := by
          rcases cnt_set seen e.f1.toNat with h | h
          · have := (hset e.f1 hr.2.2.1).2 (.inl ⟨rfl, hin⟩)
            rw [h, htick] at this; cases this
          · exact h
        have hcl := cnt_le (seen.set e.f1.toNat true)
        rw [List.length_set, B.len] at hcl
        refine ih (i + 1) (seen.set e.f1.toNat true) (todo ++ [e.f1]) (by omega) (by omega) ⟨by rw [List.length_set]; exact B.len, fun x hx hxt => ?_, fun x hx => ?_, ?_, fun e' he' h1 h2 h3 h4 => ?_⟩ (by rw [hcnt, List.length_append, List.length_singleton]; omega) (fun j hj hji hok' => ?_)
        · rcases (hset x hx).1 hxt with ⟨h, _⟩ | h
          · rw [h]; exact hway
          · exact B.way x hx h
        · rcases List.mem_append.1 hx with h | h
          · exact B.que x h
          · obtain rfl := List.mem_singleton.1 h
            exact ⟨.inr hway, hr.2.2⟩
        · have := (hset v hv.1)
          cases hh : tick (seen.set e.f1.toNat true) v with
          | false => rfl
          | true =>
            rcases this.1 hh with ⟨h, _⟩ | h
            · exact absurd h.symm hev
            · rw [B.notv] at h; cases h
        · have hr' := hE e' he'
          refine (hset _ hr'.2.2.1).2 ?_
          have h2' : e'.f0 ∉ todo ∧ e'.f0 ≠ e.f1 := ⟨fun h => h2 (List.mem_append_left _ h), fun h => h2 (List.mem_append_right _ (by simp [h]))⟩
          refine .inr (B.closed e' he' ?_ h2'.1 h3 h4)
          rcases h1 with h | h
          · exact .inl h
          · rcases (hset _ hr'.1).1 h with ⟨h, _⟩ | h
            · exact absurd h h2'.2
            · exact .inr h
        · have hj' : 0 ≤ (nextS es at_)[j].f0 := by
            obtain ⟨e', he', _, hel'⟩ := mem_nextS.1 (List.getElem_mem hj)
            rw [← hel']; exact (hE e' he').2.2.1
          refine (hset _ hj').2 ?_
          by_cases hjl : j < i
          · exact .inr (hG j hj hjl hok')
          · obtain rfl : j = i := by omega
            exact .inl ⟨hl0, hin⟩
    by_cases hlow : lowS (rd_T23 ns e.f1) < lowS (rd_T23 ns v)
    · refine ev_pos hlow ?_
      rw [decide_eq_true hlow]
      exact skip (fun h => by simp [okB, hlow] at h) _ _
    refine ev_neg hlow ?_
    by_cases hk : (rd_T23 ns e.f1).f0 = 10
    · refine ev_pos hk ?_
      by_cases hm3 : (rd_T23 ns e.f1).f3 = lowS (rd_T23 ns v)
      · rw [show ((rd_T23 ns e.f1).f3 == lowS (rd_T23 ns v)) = true from beq_iff_eq.mpr hm3]
        exact skip (fun h => by simp [okB, hk, hm3] at h) _ _
      · rw [show ((rd_T23 ns e.f1).f3 == lowS (rd_T23 ns v)) = false from beq_eq_false_iff_ne.mpr hm3]
        exact go (by simp [okB, hk, hm3, hlow])
    · refine ev_neg hk ?_
      exact go (by simp [okB, hk, hlow])
theorem bfs_l0 (hns : ns.length ≤ 100000) (hes : es.length ≤ 100000) (hd : ∀ n ∈ ns, -1000000 ≤ n.f3 ∧ n.f3 ≤ 1000000) (hE : ∀ e ∈ es, 0 ≤ e.f0 ∧ e.f0 < (ns.length : Int) ∧ 0 ≤ e.f1 ∧ e.f1 < (ns.length : Int))
    (hv : 0 ≤ v ∧ v < (ns.length : Int)) (b : Bool) (hb : b = true ↔ RoundP ns es v) (M : Nat) : M ≤ 1000000 →
    ∀ seen todo, Bfs ns es v seen todo (fun _ => False) → ns.length - cnt seen + todo.length ≤ M → Ev (fun k => valid_round.l0 k v (lowS (rd_T23 ns v)) seen todo ns es) b := by
  induction M with
  | zero =>
    intro hM seen todo B hc
    have h0 : todo = [] := List.length_eq_zero_iff.1 (by omega)
    subst h0
    refine Ev.step (fun k => valid_round.l0.eq_2 _ _ _ _ _ _ k) (ev_neg (by simp) (ev_pos hv.1 (ev_pos (by rw [B.len]; exact hv.2) (ev_some ?_))))
    have h1 : rdOf false seen v = false := B.notv
    rw [h1]
    cases hb' : b with
    | false => rfl
    | true =>
      have hw := hb.1 hb'
      have := hw.closed (fun x => tick seen x = true) (fun x hx hk => by obtain ⟨e, he, h1, rfl⟩ := mem_pairs.1 hx; exact B.closed e he (.inl h1) (by simp) (fun h => h) hk) (fun a x ha hx hk => by obtain ⟨e, he, rfl, rfl⟩ := mem_pairs.1 hx; exact B.closed e he (.inr ha) (by simp) (fun h => h) hk)
      rw [B.notv] at this; cases this
  | succ M IH =>
    intro hM seen todo B hc
    cases todo with
    | nil =>
      refine Ev.step (fun k => valid_round.l0.eq_2 _ _ _ _ _ _ k) (ev_neg (by simp) (ev_pos hv.1 (ev_pos (by rw [B.len]; exact hv.2) (ev_some ?_))))
      have h1 : rdOf false seen v = false := B.notv
      rw [h1]
      cases hb' : b with
      | false => rfl
      | true =>
        have hw := hb.1 hb'
        have := hw.closed (fun x => tick seen x = true) (fun x hx hk => by obtain ⟨e, he, h1, rfl⟩ := mem_pairs.1 hx; exact B.closed e he (.inl h1) (by simp) (fun h => h) hk) (fun a x ha hx hk => by obtain ⟨e, he, rfl, rfl⟩ := mem_pairs.1 hx; exact B.closed e he (.inr ha) (by simp) (fun h => h) hk)
        rw [B.notv] at this; cases this
    | cons at_ todo =>
      simp only [List.length_cons] at hc
      have hq : rd (at_ :: todo) 0 = at_ := rfl
      refine Ev.step (fun k => valid_round.l0.eq_2 _ _ _ _ _ _ k) (ev_pos (by simp only [List.length_cons]; omega) (ev_pos (by simp only [List.length_cons]; omega) (ev_pos (by simp only [List.length_cons]; omega) ?_)))
      rw [hq]
      refine Ev.bind (next_s ns es at_ (by omega)) ?_
      have hdr : (at_ :: todo).drop (1 : Int).toNat = todo := rfl
      rw [hdr]
      refine bfs_l1 hns hes hd hE hv b hb M (fun seen todo B h _ => IH (by omega) seen todo B h) at_ (B.que at_ (by simp)) (by omega) _ 0 seen todo (by omega) rfl ⟨B.len, B.way, fun x hx => B.que x (List.mem_cons_of_mem _ hx), B.notv, fun e he h1 h2 h3 h4 => B.closed e he h1 (fun h => ?_) (fun h => h) h4⟩ (by omega) (fun j hj hji => by omega)
      rcases List.mem_cons.1 h with h | h
      · exact h3 h
      · exact h2 h
/-- The program's search finds a way round just if there is one. -/
theorem round_s (hns : ns.length ≤ 100000) (hes : es.length ≤ 100000) (hd : ∀ n ∈ ns, -1000000 ≤ n.f3 ∧ n.f3 ≤ 1000000) (hE : ∀ e ∈ es, 0 ≤ e.f0 ∧ e.f0 < (ns.length : Int) ∧ 0 ≤ e.f1 ∧ e.f1 < (ns.length : Int))
    (hv : 0 ≤ v ∧ v < (ns.length : Int)) (b : Bool) (hb : b = true ↔ RoundP ns es v) : Ev (fun k => valid_round.f k ns es v) b := by
  unfold valid_round.f
  refine ev_pos hv.1 (ev_pos hv.2 (ev_bind (low_s _ (hd _ (mem_rdN hv.1 hv.2))) (ev_pos (by omega) (ev_pos (by omega) ?_))))
  have hz : ∀ x, tick (List.replicate ((ns.length : Int) : Int).toNat false) x = false := fun x => by
    unfold tick
    rw [List.getD_eq_getElem?_getD, List.getElem?_replicate]
    split <;> rfl
  refine bfs_l0 hns hes hd hE hv b hb (ns.length + 1) (by omega) _ _ ⟨by simp, fun x _ h => ?_, fun x hx => ?_, hz v, fun e he h1 h2 _ _ => ?_⟩ (by simp only [List.length_singleton]; omega)
  · rw [hz] at h; cases h
  · obtain rfl := List.mem_singleton.1 hx
    exact ⟨.inl rfl, hv⟩
  · exfalso
    rcases h1 with h | h
    · exact h2 (by simp [h])
    · rw [hz] at h; cases h
end
end Go.Proofs.Ytjlnjlnecipllaa.Pure
