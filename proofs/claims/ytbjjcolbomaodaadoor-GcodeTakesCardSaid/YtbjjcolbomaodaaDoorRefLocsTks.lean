/- Plain lemmas: what the reference of layer 8 comes to, of places. No program in sight. -/
import Derived.Test.YtbjjcolbomaodaaDoorRefNodeTks
import Derived.Test.YtbjjcolbomaodaaDoorGraLocsTks
import Derived.Test.YtbjjcolbomaodaaDoorGraNextTks
import Derived.Test.YtbjjcolbomaodaaDoorPTksx16
import Derived.Test.YtbjjcolbomaodaaDoorPTksx16
import Derived.Test.YtbjjcolbomaodaaDoorPTksx18
namespace Go.Proofs.YtbjjcolbomaodaaDoor.Pure
open Go.RowKit Go.Proofs.YtbjjcolbomaodaaDoor.PTks Go.Proofs.YtbjjcolbomaodaaDoorW.PrintWords Go.Proofs.YtbjjcolbomaodaaDoorW.PrintLast Go.Proofs.YtbjjcolbomaodaaDoorW.PrintMore
set_option linter.unusedVariables false
set_option linter.unusedSimpArgs false

theorem rlocs_l1 (ns : List S40) (es : List S42) (hns : ns.length ≤ 100000) (i : Nat) (hi : i < ns.length) (R : List S82) (m : Nat) : ∀ (p : Int) (acc : List S82), 0 ≤ p → p ≤ insS ns[i].f0 → insS ns[i].f0 - p = m → acc.length + m ≤ 4000000 →
    Ev (fun k => meanderref08_Locs.l0 k (acc ++ prts i p m) ((i : Int) + 1) ns es) R → Ev (fun k => meanderref08_Locs.l1 k acc i p ns es) R := by
  have hb := insS_bd ns[i].f0
  induction m with
  | zero =>
    intro p acc h0 h1 hd hl h
    refine Ev.step (fun k => meanderref08_Locs.l1.eq_2 _ _ _ _ _ k) (ev_pos (by omega) (ev_pos (by omega) ?_))
    rw [rdN hi]
    refine ev_bind (rins_s _) (ev_neg (by omega) ?_)
    rw [w_id (by omega) (by omega)]
    simpa [prts] using h
  | succ m ih =>
    intro p acc h0 h1 hd hl h
    refine Ev.step (fun k => meanderref08_Locs.l1.eq_2 _ _ _ _ _ k) (ev_pos (by omega) (ev_pos (by omega) ?_))
    rw [rdN hi]
    refine ev_bind (rins_s _) (ev_pos (by omega) (ev_pos (by omega) ?_))
    rw [w_id (by omega) (by omega)]
    refine ih (p + 1) (acc ++ [⟨i, p⟩]) (by omega) (by omega) (by omega) (by simp; omega) ?_
    simpa [prts] using h
theorem rlocs_l0 (ns : List S40) (es : List S42) (hns : ns.length ≤ 100000) (m : Nat) : ∀ i : Nat, i ≤ ns.length → ns.length - i = m → Ev (fun k => meanderref08_Locs.l0 k (locsFrom 0 (ns.take i)) i ns es) (locsFrom 0 ns) := by
  induction m with
  | zero =>
    intro i hi hd
    obtain rfl : i = ns.length := by omega
    exact Ev.step (fun k => meanderref08_Locs.l0.eq_2 _ _ _ _ k) (ev_neg (by omega) (ev_some (by rw [List.take_of_length_le (Nat.le_refl _)])))
  | succ m ih =>
    intro i hi hd
    have hlt : i < ns.length := by omega
    have h := ih (i + 1) (by omega) (by omega)
    have hle := locsFrom_le (ns.take i) 0
    rw [List.length_take] at hle
    rw [List.take_succ_eq_append_getElem hlt, locsFrom_append, List.length_take, Nat.min_eq_left (by omega), Int.zero_add] at h
    simp only [locsFrom, List.append_nil] at h
    have hb := insS_bd ns[i].f0
    refine Ev.step (fun k => meanderref08_Locs.l0.eq_2 _ _ _ _ k) (ev_pos (by omega) (ev_pos (by omega) ?_))
    rw [rdN hlt]
    refine ev_bind (rhas_s _) ?_
    unfold locsOf headS at h
    by_cases hk : 1 ≤ ns[i].f0 ∧ ns[i].f0 ≤ 10
    · rw [if_pos hk, show (insS ns[i].f0 - -1).toNat = (insS ns[i].f0).toNat + 1 by omega] at h
      refine ev_pos (decide_eq_true hk) (ev_pos (by omega) (Ev.step (fun k => meanderref08_Locs.j1.eq_2 _ _ _ _ k) ?_))
      refine rlocs_l1 ns es hns i hlt _ (insS ns[i].f0).toNat 0 _ (by omega) (by omega) (by omega) (by simp; omega) ?_
      simpa [prts] using h
    · rw [if_neg hk] at h
      refine ev_neg (by simpa using hk) (Ev.step (fun k => meanderref08_Locs.j1.eq_2 _ _ _ _ k) ?_)
      refine rlocs_l1 ns es hns i hlt _ (insS ns[i].f0).toNat 0 _ (by omega) (by omega) (by omega) (by omega) ?_
      simpa using h
theorem rlocs_s (ns : List S40) (es : List S42) (hns : ns.length ≤ 100000) : Ev (fun k => meanderref08_Locs.f k ns es) (locsFrom 0 ns) := by
  unfold meanderref08_Locs.f
  exact rlocs_l0 ns es hns ns.length 0 (by omega) (by omega)
theorem ris_l0 (xs : List S82) (t : S82) (hx : xs.length ≤ 4000000) (b : Bool) (hb : b = true ↔ t ∈ xs) (m : Nat) : ∀ i : Nat, i ≤ xs.length → xs.length - i = m → (∀ (j : Nat) (h : j < xs.length), j < i → xs[j] ≠ t) → Ev (fun k => meanderref08_Is.l0 k xs i t.f0 t.f1) b := by
  induction m with
  | zero =>
    intro i hi hm hp
    refine Ev.step (fun k => meanderref08_Is.l0.eq_2 _ _ _ _ k) (ev_neg (by omega) (ev_some ?_))
    cases hb' : b with
    | false => rfl
    | true =>
      obtain ⟨j, hj, h⟩ := List.getElem_of_mem (hb.1 hb')
      exact absurd h (hp j hj (by omega))
  | succ m ih =>
    intro i hi hm hp
    have hlt : i < xs.length := by omega
    refine Ev.step (fun k => meanderref08_Is.l0.eq_2 _ _ _ _ k) (ev_pos (by omega) (ev_pos (by omega) ?_))
    rw [rdL hlt, w_id (by omega) (by omega)]
    by_cases q : xs[i] = t
    · refine ev_pos (by rw [q]; simp) (ev_some ?_)
      symm; rw [hb, ← q]; exact List.getElem_mem hlt
    · refine ev_neg ?_ (ih (i + 1) (by omega) (by omega) (fun j hj hji => ?_))
      · intro h
        simp only [Bool.and_eq_true, beq_iff_eq] at h
        refine q ?_
        generalize xs[i] = y at h ⊢
        cases y; cases t; simp_all
      · by_cases h : j < i
        · exact hp j hj h
        · obtain rfl : j = i := by omega
          exact q
theorem ris_s (ns : List S40) (es : List S42) (t : S82) (hns : ns.length ≤ 100000) (b : Bool) (hb : b = true ↔ t ∈ locsFrom 0 ns) : Ev (fun k => meanderref08_Is.f k ns es t.f0 t.f1) b := by
  unfold meanderref08_Is.f
  have hle := locsFrom_le ns 0
  exact Ev.bind (rlocs_s ns es hns) (ris_l0 _ t (by omega) b hb _ 0 (by omega) rfl (fun j _ h => absurd h (by omega)))
theorem rprev_l0 (ns : List S40) (es : List S42) (a b : Int) (hes : es.length ≤ 1000000) (m : Nat) : ∀ i : Nat, i ≤ es.length → es.length - i = m → Ev (fun k => meanderref08_Prev.l0 k (prevS (es.take i) a b) i ns es a b) (prevS es a b) := by
  induction m with
  | zero =>
    intro i hi hd
    obtain rfl : i = es.length := by omega
    exact Ev.step (fun k => meanderref08_Prev.l0.eq_2 _ _ _ _ _ _ k) (ev_neg (by omega) (ev_some (by rw [List.take_of_length_le (Nat.le_refl _)])))
  | succ m ih =>
    intro i hi hd
    have hlt : i < es.length := by omega
    have h := ih (i + 1) (by omega) (by omega)
    rw [List.take_succ_eq_append_getElem hlt, prevS_snoc] at h
    refine Ev.step (fun k => meanderref08_Prev.l0.eq_2 _ _ _ _ _ _ k) (ev_pos (by omega) (ev_pos (by omega) ?_))
    rw [rdE hlt, w_id (by omega) (by omega)]
    have hle := prevS_le (es.take i) a b
    rw [List.length_take] at hle
    by_cases h1 : es[i].f1 = a
    · refine ev_pos h1 ?_
      by_cases h2 : es[i].f2 = b
      · rw [if_pos ⟨h1, h2⟩] at h
        exact ev_pos h2 (ev_pos (by omega) h)
      · rw [if_neg (fun c => h2 c.2)] at h
        exact ev_neg h2 h
    · rw [if_neg (fun c => h1 c.1)] at h
      exact ev_neg h1 h
theorem rprev_s (ns : List S40) (es : List S42) (a b : Int) (hes : es.length ≤ 1000000) : Ev (fun k => meanderref08_Prev.f k ns es a b) (prevS es a b) := by
  unfold meanderref08_Prev.f
  exact rprev_l0 ns es a b hes es.length 0 (by omega) (by omega)
end Go.Proofs.YtbjjcolbomaodaaDoor.Pure
