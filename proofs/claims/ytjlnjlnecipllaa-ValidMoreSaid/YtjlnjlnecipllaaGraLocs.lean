/- Plain lemmas on graphs: the places. No program in sight. -/
import Derived.Test.YtjlnjlnecipllaaGra
import Derived.Test.YtjlnjlnecipllaaPAllx3
import Derived.Test.YtjlnjlnecipllaaPAllx4
namespace Go.Proofs.Ytjlnjlnecipllaa.Pure
open Go.RowKit Go.Proofs.Ytjlnjlnecipllaa.PAll Go.Proofs.YtjlnjlnecipllaaW.PrintWords Go.Proofs.YtjlnjlnecipllaaW.PrintLast Go.Proofs.YtjlnjlnecipllaaW.PrintMore
set_option linter.unusedVariables false
set_option linter.unusedSimpArgs false

def headS (k : Int) : Int := if 1 ≤ k ∧ k ≤ 10 then -1 else 0
/-- Ports p, p + 1, .. of a node. -/
def prts (i p : Int) : Nat → List S47
  | 0 => []
  | m + 1 => ⟨i, p⟩ :: prts i (p + 1) m
theorem prts_length (i p : Int) (m : Nat) : (prts i p m).length = m := by
  induction m generalizing p with
  | zero => rfl
  | succ m ih => simp [prts, ih]
theorem mem_prts {i p : Int} {m : Nat} {x : S47} : x ∈ prts i p m ↔ x.f0 = i ∧ p ≤ x.f1 ∧ x.f1 < p + m := by
  induction m generalizing p with
  | zero => simp only [prts, List.not_mem_nil, false_iff]; omega
  | succ m ih =>
    simp only [prts, List.mem_cons, ih]
    constructor
    · rintro (rfl | h)
      · exact ⟨rfl, by simp, by simp; omega⟩
      · omega
    · rintro ⟨h1, h2, h3⟩
      by_cases h : x.f1 = p
      · left; cases x; simp_all
      · right; omega
def locsOf (i : Int) (n : S23) : List S47 := prts i (headS n.f0) (insS n.f0 - headS n.f0).toNat
/-- The places of nodes i, i + 1, .. -/
def locsFrom (i : Int) : List S23 → List S47
  | [] => []
  | n :: ns => locsOf i n ++ locsFrom (i + 1) ns
theorem locsFrom_append (a b : List S23) (i : Int) : locsFrom i (a ++ b) = locsFrom i a ++ locsFrom (i + a.length) b := by
  induction a generalizing i with
  | nil => simp [locsFrom]
  | cons n a ih => simp only [List.cons_append, locsFrom, ih, List.append_assoc, List.length_cons]; congr 3; omega
theorem locsOf_le (i : Int) (n : S23) : (locsOf i n).length ≤ 3 := by
  unfold locsOf headS
  rw [prts_length]
  have := insS_bd n.f0
  split <;> omega
theorem locsFrom_le (ns : List S23) (i : Int) : (locsFrom i ns).length ≤ 3 * ns.length := by
  induction ns generalizing i with
  | nil => simp [locsFrom]
  | cons n ns ih => simp only [locsFrom, List.length_append, List.length_cons]; have := ih (i + 1); have := locsOf_le i n; omega

theorem locs_l1 (ns : List S23) (len i : Int) (hi : 0 ≤ i ∧ i ≤ 1000000) (f0 f1 f2 f3 : Int) (R : List S47) (m : Nat) : ∀ (p : Int) (acc : List S47), -1 ≤ p → p ≤ insS f0 → insS f0 - p = m → acc.length + m ≤ 4000000 →
    Ev (fun k => graph_Locs.l0 k (acc ++ prts i p m) ns len (i + 1)) R → Ev (fun k => graph_Locs.l1 k acc i p ns len i f0 f1 f2 f3) R := by
  have hb := insS_bd f0
  induction m with
  | zero =>
    intro p acc h0 h1 hd hl h
    refine Ev.step (fun k => graph_Locs.l1.eq_2 _ _ _ _ _ _ _ _ _ _ k) (ev_bind (ins_s' f0) (ev_neg (by omega) ?_))
    rw [w_id (by omega) (by omega)]
    simpa [prts] using h
  | succ m ih =>
    intro p acc h0 h1 hd hl h
    refine Ev.step (fun k => graph_Locs.l1.eq_2 _ _ _ _ _ _ _ _ _ _ k) (ev_bind (ins_s' f0) (ev_pos (by omega) (ev_pos (by omega) ?_)))
    rw [w_id (by omega) (by omega)]
    refine ih (p + 1) (acc ++ [⟨i, p⟩]) (by omega) (by omega) (by omega) (by simp; omega) ?_
    simpa [prts] using h
theorem locs_l0 (ns : List S23) (hns : ns.length ≤ 1000000) (m : Nat) : ∀ i : Nat, i ≤ ns.length → ns.length - i = m → Ev (fun k => graph_Locs.l0 k (locsFrom 0 (ns.take i)) ns ns.length i) (locsFrom 0 ns) := by
  induction m with
  | zero =>
    intro i hi hd
    obtain rfl : i = ns.length := by omega
    exact Ev.step (fun k => graph_Locs.l0.eq_2 _ _ _ _ k) (ev_neg (by omega) (ev_some (by rw [List.take_of_length_le (Nat.le_refl _)])))
  | succ m ih =>
    intro i hi hd
    have hlt : i < ns.length := by omega
    have h := ih (i + 1) (by omega) (by omega)
    have hle := locsFrom_le (ns.take i) 0
    rw [List.length_take] at hle
    rw [List.take_succ_eq_append_getElem hlt, locsFrom_append, List.length_take, Nat.min_eq_left (by omega), Int.zero_add] at h
    simp only [locsFrom, List.append_nil] at h
    have hb := insS_bd ns[i].f0
    refine Ev.step (fun k => graph_Locs.l0.eq_2 _ _ _ _ k) (ev_pos (by omega) (ev_pos (by omega) (ev_pos (by omega) ?_)))
    rw [rdN hlt]
    refine ev_bind (has_s _) ?_
    unfold locsOf headS at h
    by_cases hk : 1 ≤ ns[i].f0 ∧ ns[i].f0 ≤ 10
    · rw [if_pos hk] at h
      refine ev_pos (decide_eq_true hk) (Ev.step (fun k => graph_Locs.j1.eq_2 _ _ _ _ _ _ _ _ _ _ k) ?_)
      exact locs_l1 ns ns.length i (by omega) _ _ _ _ _ (insS ns[i].f0 - -1).toNat (-1) _ (by omega) (by omega) (by omega) (by omega) h
    · rw [if_neg hk] at h
      refine ev_neg (by simpa using hk) (Ev.step (fun k => graph_Locs.j1.eq_2 _ _ _ _ _ _ _ _ _ _ k) ?_)
      exact locs_l1 ns ns.length i (by omega) _ _ _ _ _ (insS ns[i].f0 - 0).toNat 0 _ (by omega) (by omega) (by omega) (by omega) h
theorem locs_s (ns : List S23) (es : List S36) (hns : ns.length ≤ 1000000) : Ev (fun k => graph_Locs.f k ns es) (locsFrom 0 ns) := by
  unfold graph_Locs.f
  exact locs_l0 ns hns ns.length 0 (by omega) (by omega)

/-! The places are in order. -/
def Lt (a b : S47) : Prop := a.f0 < b.f0 ∨ a.f0 = b.f0 ∧ a.f1 < b.f1
theorem prts_sorted (i p : Int) (m : Nat) : (prts i p m).Pairwise Lt := by
  induction m generalizing p with
  | zero => exact List.Pairwise.nil
  | succ m ih =>
    refine List.Pairwise.cons (fun x hx => ?_) (ih (p + 1))
    have := mem_prts.1 hx
    exact .inr ⟨this.1.symm, by show p < x.f1; omega⟩
theorem mem_locsFrom {ns : List S23} {i : Int} {x : S47} : x ∈ locsFrom i ns ↔ ∃ (j : Nat) (h : j < ns.length), x.f0 = i + j ∧ headS ns[j].f0 ≤ x.f1 ∧ x.f1 < insS ns[j].f0 := by
  induction ns generalizing i with
  | nil => simp [locsFrom]
  | cons n ns ih =>
    simp only [locsFrom, List.mem_append, ih, locsOf, mem_prts]
    have hb := insS_bd n.f0
    have hh : headS n.f0 = -1 ∨ headS n.f0 = 0 := by unfold headS; split <;> simp
    constructor
    · rintro (h | ⟨j, hj, h⟩)
      · exact ⟨0, by simp, by simp; omega, by simp; omega, by simp; omega⟩
      · exact ⟨j + 1, by simpa using hj, by omega, by simpa using h.2⟩
    · rintro ⟨j, hj, h⟩
      cases j with
      | zero => left; simp at h; omega
      | succ j => right; exact ⟨j, by simpa using hj, by omega, by simpa using h.2⟩
theorem locsFrom_sorted (ns : List S23) (i : Int) : (locsFrom i ns).Pairwise Lt := by
  induction ns generalizing i with
  | nil => exact List.Pairwise.nil
  | cons n ns ih =>
    simp only [locsFrom]
    refine List.pairwise_append.2 ⟨prts_sorted _ _ _, ih _, fun a ha b hb => ?_⟩
    have h1 := mem_prts.1 ha
    obtain ⟨j, _, h2, _⟩ := mem_locsFrom.1 hb
    exact .inl (by omega)
theorem ord_lt {a b : S47} : Lt a b ↔ ordS a.f0 a.f1 b.f0 b.f1 = -1 := by
  unfold Lt ordS
  repeat' split
  all_goals omega
theorem ord_eq {a b : S47} : a = b ↔ ordS a.f0 a.f1 b.f0 b.f1 = 0 := by
  constructor
  · rintro rfl
    unfold ordS
    repeat' split
    all_goals omega
  · intro h
    have : a.f0 = b.f0 ∧ a.f1 = b.f1 := by
      revert h
      unfold ordS
      repeat' split
      all_goals omega
    cases a; cases b; simp_all
theorem Lt.trans {a b c : S47} (h : Lt a b) (k : Lt b c) : Lt a c := by unfold Lt at *; omega
theorem Lt.irrefl {a : S47} (h : Lt a a) : False := by unfold Lt at h; omega
theorem Lt.tri (a b : S47) : Lt a b ∨ a = b ∨ Lt b a := by
  rcases Int.lt_or_le a.f0 b.f0 with h | h
  · exact .inl (.inl h)
  · rcases Int.lt_or_le b.f0 a.f0 with h' | h'
    · exact .inr (.inr (.inl h'))
    · have e : a.f0 = b.f0 := by omega
      rcases Int.lt_or_le a.f1 b.f1 with k | k
      · exact .inl (.inr ⟨e, k⟩)
      · rcases Int.lt_or_le b.f1 a.f1 with k' | k'
        · exact .inr (.inr (.inr ⟨e.symm, k'⟩))
        · right; left; have e1 : a.f1 = b.f1 := by omega
          cases a; cases b; simp_all
/-- A search by halves finds just what is there. -/
theorem bs_s (xs : List S47) (t : S47) (hs : xs.Pairwise Lt) (hx : xs.length ≤ 4000000) (m : Nat) : ∀ i j : Nat, i ≤ j → j ≤ xs.length → j - i ≤ m → (∀ (q : Nat) (h : q < xs.length), q < i → Lt xs[q] t) → (∀ (q : Nat) (h : q < xs.length), j ≤ q → ¬ Lt xs[q] t) →
    ∀ b : Bool, (b = true ↔ t ∈ xs) → Ev (fun k => graph_Is.l0 k xs t.f0 t.f1 i j) b := by
  have hp := List.pairwise_iff_getElem.1 hs
  induction m with
  | zero =>
    intro i j hij hj hd hlo hhi b hb
    obtain rfl : i = j := by omega
    refine Ev.step (fun k => graph_Is.l0.eq_2 _ _ _ _ _ k) (ev_neg (by omega) ?_)
    by_cases hi : i < xs.length
    · refine ev_pos (by omega) (ev_pos (by omega) ?_)
      rw [rdL hi]
      refine Ev.bind (order_s _ _ _ _) (ev_some ?_)
      rw [Bool.eq_iff_iff, beq_iff_eq, hb, ← ord_eq]
      constructor
      · rintro rfl; exact List.getElem_mem hi
      · intro h
        obtain ⟨q, hq, rfl⟩ := List.getElem_of_mem h
        rcases Nat.lt_trichotomy q i with h1 | h1 | h1
        · exact (Lt.irrefl (hlo q hq h1)).elim
        · subst h1; rfl
        · exact absurd (hp i q hi hq h1) (hhi i hi (Nat.le_refl _))
    · refine ev_neg (by omega) (ev_some ?_)
      have : ¬ t ∈ xs := fun h => by
        obtain ⟨q, hq, rfl⟩ := List.getElem_of_mem h
        exact Lt.irrefl (hlo q hq (by omega))
      cases b
      · rfl
      · exact absurd (hb.1 rfl) this
  | succ m ih =>
    intro i j hij hj hd hlo hhi b hb
    by_cases hlt : i < j
    · refine Ev.step (fun k => graph_Is.l0.eq_2 _ _ _ _ _ k) (ev_pos (by omega) (ev_pos (by omega) ?_))
      have e : ((i : Int) + j) / 2 = (((i + j) / 2 : Nat) : Int) := by omega
      have hmid : (i + j) / 2 < xs.length := by omega
      rw [e, rdL hmid]
      refine Ev.bind (order_s _ _ _ _) ?_
      by_cases hc : Lt xs[(i + j) / 2] t
      · have := ord_lt.1 hc
        refine ev_pos (by omega) ?_
        refine ih ((i + j) / 2 + 1) j (by omega) hj (by omega) (fun q hq hqi => ?_) hhi b hb
        rcases Nat.lt_or_ge q ((i + j) / 2) with h1 | h1
        · exact (hp q _ hq hmid h1).trans hc
        · obtain rfl : q = (i + j) / 2 := by omega
          exact hc
      · have : ordS xs[(i + j) / 2].f0 xs[(i + j) / 2].f1 t.f0 t.f1 ≠ -1 := fun h => hc (ord_lt.2 h)
        have hbd := order_bd xs[(i + j) / 2].f0 xs[(i + j) / 2].f1 t.f0 t.f1
        refine ev_neg (by omega) ?_
        refine ih i ((i + j) / 2) (by omega) (by omega) (by omega) hlo (fun q hq hqj => ?_) b hb
        rcases Nat.lt_or_ge ((i + j) / 2) q with h1 | h1
        · intro h; exact hc ((hp _ q hmid hq h1).trans h)
        · obtain rfl : q = (i + j) / 2 := by omega
          exact hc
    · obtain rfl : i = j := by omega
      exact ih i i (Nat.le_refl _) hj (by omega) hlo hhi b hb
/-- Is a place one of the graph? -/
theorem is_s (ns : List S23) (es : List S36) (t : S47) (hns : ns.length ≤ 1000000) (b : Bool) (hb : b = true ↔ t ∈ locsFrom 0 ns) : Ev (fun k => graph_Is.f k ns es t.f0 t.f1) b := by
  unfold graph_Is.f
  have hle := locsFrom_le ns 0
  refine Ev.bind (locs_s ns es hns) (ev_pos (by omega) ?_)
  exact bs_s _ t (locsFrom_sorted ns 0) (by omega) _ 0 (locsFrom 0 ns).length (by omega) (by omega) (Nat.le_refl _) (fun q h hq => by omega) (fun q h hq => by omega) b hb
end Go.Proofs.Ytjlnjlnecipllaa.Pure
