/- Plain lemmas: what the reference of layer 8 comes to, of ways on, and of sameness. No program in sight. -/
import Derived.Test.YtlhmcobocnhgoaaRefLocsPlc
import Derived.Test.YtlhmcobocnhgoaaPPlcx4
import Derived.Test.YtlhmcobocnhgoaaPPlcx3
import Derived.Test.YtlhmcobocnhgoaaPPlcx5
import Derived.Test.YtlhmcobocnhgoaaPPlcx5
import Derived.Test.YtlhmcobocnhgoaaPPlcx3
namespace Go.Proofs.Ytlhmcobocnhgoaa.Pure
open Go.RowKit Go.Proofs.Ytlhmcobocnhgoaa.PPlc Go.Proofs.YtlhmcobocnhgoaaW.PrintWords Go.Proofs.YtlhmcobocnhgoaaW.PrintLast Go.Proofs.YtlhmcobocnhgoaaW.PrintMore
set_option linter.unusedVariables false
set_option linter.unusedSimpArgs false

theorem rdI {es : List Int} {i : Nat} (h : i < es.length) : rd es (i : Int) = es[i] := by
  unfold rd; rw [List.getD_eq_getElem?_getD]; simp [List.getElem?_eq_getElem h]
theorem rnext_l0 (ns : List S38) (es : List S35) (x : Int) (hes : es.length ≤ 1000000) (m : Nat) : ∀ i : Nat, i ≤ es.length → es.length - i = m → Ev (fun k => meanderref08_Next.l0 k x (nextS (es.take i) x) i ns es) (nextS es x) := by
  induction m with
  | zero =>
    intro i hi hd
    obtain rfl : i = es.length := by omega
    exact Ev.step (fun k => meanderref08_Next.l0.eq_2 _ _ _ _ _ k) (ev_neg (by omega) (ev_some (by rw [List.take_of_length_le (Nat.le_refl _)])))
  | succ m ih =>
    intro i hi hd
    have hlt : i < es.length := by omega
    have h := ih (i + 1) (by omega) (by omega)
    rw [List.take_succ_eq_append_getElem hlt, nextS_snoc] at h
    refine Ev.step (fun k => meanderref08_Next.l0.eq_2 _ _ _ _ _ k) (ev_pos (by omega) (ev_pos (by omega) ?_))
    rw [rdE hlt, w_id (by omega) (by omega)]
    have hle := nextS_le (es.take i) x
    rw [List.length_take] at hle
    by_cases hx : es[i].f0 = x
    · rw [if_pos hx] at h
      exact ev_pos hx (ev_pos (by omega) h)
    · rw [if_neg hx] at h
      exact ev_neg hx h
theorem rnext_s (ns : List S38) (es : List S35) (x : Int) (hes : es.length ≤ 1000000) : Ev (fun k => meanderref08_Next.f k ns es x) (nextS es x) := by
  unfold meanderref08_Next.f
  exact rnext_l0 ns es x hes es.length 0 (by omega) (by omega)
theorem same_l0 (xs : List S23) (hx : xs.length ≤ 4000000) (m : Nat) : ∀ i : Nat, i ≤ xs.length → xs.length - i = m → Ev (fun k => meanderref08_Same.l0 k xs xs i) true := by
  induction m with
  | zero =>
    intro i hi hd
    exact Ev.step (fun k => meanderref08_Same.l0.eq_2 _ _ _ k) (ev_neg (by omega) (ev_some rfl))
  | succ m ih =>
    intro i hi hd
    refine Ev.step (fun k => meanderref08_Same.l0.eq_2 _ _ _ k) (ev_pos (by omega) (ev_pos (by omega) (ev_pos (by omega) (ev_neg (by simp) ?_))))
    rw [w_id (by omega) (by omega)]
    exact ih (i + 1) (by omega) (by omega)
theorem same_s (xs : List S23) (hx : xs.length ≤ 4000000) : Ev (fun k => meanderref08_Same.f k xs xs) true := by
  unfold meanderref08_Same.f
  exact ev_pos rfl (same_l0 xs hx xs.length 0 (by omega) (by omega))
theorem numbers_l0 (xs : List Int) (hx : xs.length ≤ 4000000) (m : Nat) : ∀ i : Nat, i ≤ xs.length → xs.length - i = m → Ev (fun k => meanderref05_Numbers.l0 k xs xs i) true := by
  induction m with
  | zero =>
    intro i hi hd
    exact Ev.step (fun k => meanderref05_Numbers.l0.eq_2 _ _ _ k) (ev_neg (by omega) (ev_some rfl))
  | succ m ih =>
    intro i hi hd
    refine Ev.step (fun k => meanderref05_Numbers.l0.eq_2 _ _ _ k) (ev_pos (by omega) (ev_pos (by omega) (ev_pos (by omega) (ev_pos rfl ?_))))
    rw [w_id (by omega) (by omega)]
    exact ih (i + 1) (by omega) (by omega)
theorem numbers_s (xs : List Int) (hx : xs.length ≤ 4000000) : Ev (fun k => meanderref05_Numbers.f k xs xs) true := by
  unfold meanderref05_Numbers.f
  exact ev_pos rfl (numbers_l0 xs hx xs.length 0 (by omega) (by omega))
theorem mem_rdN {ns : List S38} {i : Int} (h0 : 0 ≤ i) (h1 : i < (ns.length : Int)) : rd_T38 ns i ∈ ns := by
  have : rd_T38 ns ((i.toNat : Nat) : Int) = ns[i.toNat] := rdN (by omega)
  rw [show ((i.toNat : Nat) : Int) = i by omega] at this
  rw [this]; exact List.getElem_mem _
open Classical in
/-- How deep a place is. -/
noncomputable def depthS (ns : List S38) (a b : Int) : Int := if (⟨a, b⟩ : S23) ∈ locsFrom 0 ns then (if b = -1 then (rd_T38 ns a).f3 else inS (rd_T38 ns a).f0 (rd_T38 ns a).f3) else -1
theorem depth_s (ns : List S38) (es : List S35) (hns : ns.length ≤ 100000) (hd : ∀ n ∈ ns, -1000000 ≤ n.f3 ∧ n.f3 ≤ 1000000) (a b : Int) : Ev (fun k => graph_Depth.f k ns es a b) (depthS ns a b) := by
  unfold graph_Depth.f depthS
  by_cases h : (⟨a, b⟩ : S23) ∈ locsFrom 0 ns
  · rw [if_pos h]
    obtain ⟨j, hj, h1, _⟩ := mem_locsFrom.1 h
    have hr : 0 ≤ a ∧ a < (ns.length : Int) := by simp only at h1; omega
    refine Ev.bind (is_s ns es ⟨a, b⟩ (by omega) true (by simp [h])) (ev_pos rfl ?_)
    by_cases hb : b = -1
    · simp only [if_pos hb]
      exact (ev_pos hr.1 (ev_pos hr.2 (ev_some rfl)))
    · simp only [if_neg hb]
      exact (ev_pos hr.1 (ev_pos hr.2 (ev_bind (in_s _ _ _ _ (hd _ (mem_rdN hr.1 hr.2))) (ev_some rfl))))
  · rw [if_neg h]
    exact Ev.bind (is_s ns es ⟨a, b⟩ (by omega) false (by simp [h])) (ev_neg (by simp) (ev_some rfl))
theorem rdepth_at (ns : List S38) (es : List S35) (hns : ns.length ≤ 100000) (hd : ∀ n ∈ ns, -1000000 ≤ n.f3 ∧ n.f3 ≤ 1000000) (a b : Int) : Ev (fun k => meanderref08_Depth.f k ns es a b) (depthS ns a b) := by
  unfold meanderref08_Depth.f depthS
  by_cases h : (⟨a, b⟩ : S23) ∈ locsFrom 0 ns
  · rw [if_pos h]
    obtain ⟨j, hj, h1, _⟩ := mem_locsFrom.1 h
    have hr : 0 ≤ a ∧ a < (ns.length : Int) := by simp only at h1; omega
    refine Ev.bind (ris_s ns es ⟨a, b⟩ (by omega) true (by simp [h])) (ev_pos rfl ?_)
    by_cases hb : b = -1
    · simp only [if_pos hb]
      exact (ev_pos hr.1 (ev_pos hr.2 (ev_some rfl)))
    · simp only [if_neg hb]
      exact (ev_pos hr.1 (ev_pos hr.2 (ev_bind (rin_s _ _ _ _ (hd _ (mem_rdN hr.1 hr.2))) (ev_some rfl))))
  · rw [if_neg h]
    exact Ev.bind (ris_s ns es ⟨a, b⟩ (by omega) false (by simp [h])) (ev_neg (by simp) (ev_some rfl))
end Go.Proofs.Ytlhmcobocnhgoaa.Pure
