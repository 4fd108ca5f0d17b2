/- Plain lemmas on graphs that are accepted: with a Capture more; without one of the edges; with one of them twice. No program in sight. -/
import Derived.Test.YtjlnjlnecipllaaValLaws
namespace Go.Proofs.Ytjlnjlnecipllaa.Pure
open Go.RowKit Go.Proofs.Ytjlnjlnecipllaa.PAll Go.Proofs.YtjlnjlnecipllaaW.PrintWords Go.Proofs.YtjlnjlnecipllaaW.PrintLast Go.Proofs.YtjlnjlnecipllaaW.PrintMore
set_option linter.unusedVariables false
set_option linter.unusedSimpArgs false
section
variable {ns : List S23} {es : List S36}
def cap : S23 := ⟨11, 0, 0, 0⟩
theorem rd_snoc_old {i : Int} (h0 : 0 ≤ i) (h1 : i < (ns.length : Int)) : rd_T23 (ns ++ [cap]) i = rd_T23 ns i := by
  have a : rd_T23 (ns ++ [cap]) ((i.toNat : Nat) : Int) = (ns ++ [cap])[i.toNat]'(by rw [List.length_append]; omega) := rdN (by rw [List.length_append]; omega)
  have b : rd_T23 ns ((i.toNat : Nat) : Int) = ns[i.toNat]'(by omega) := rdN (by omega)
  rw [show ((i.toNat : Nat) : Int) = i by omega] at a b
  rw [a, b, List.getElem_append_left (by omega)]
theorem rd_snoc_new : rd_T23 (ns ++ [cap]) (ns.length : Int) = cap := by
  have a : rd_T23 (ns ++ [cap]) ((ns.length : Nat) : Int) = (ns ++ [cap])[ns.length]'(by simp) := rdN (by simp)
  rw [a]; simp
theorem locs_cap (i : Int) : locsFrom i [cap] = [⟨i, 0⟩] := rfl
theorem mem_locs_snoc {l : S47} : l ∈ locsFrom 0 (ns ++ [cap]) ↔ l ∈ locsFrom 0 ns ∨ l = ⟨(ns.length : Int), 0⟩ := by
  rw [locsFrom_append, Int.zero_add, locs_cap, List.mem_append, List.mem_singleton]
theorem prev_append (xs ys : List S36) (a b : Int) : prevS (xs ++ ys) a b = prevS xs a b ++ prevS ys a b := by
  unfold prevS
  rw [List.filter_append, List.map_append]
theorem prev_one (e : S36) : prevS [e] e.f1 e.f2 = [e.f0] := by
  unfold prevS
  rw [List.filter_cons, if_pos (by simp)]
  rfl
theorem prev_other (e : S36) (a b : Int) (h : e.f1 ≠ a) : prevS [e] a b = [] := by
  unfold prevS
  rw [List.filter_cons, if_neg (by simp [h])]
  rfl
theorem prev_none {a b : Int} (h : ∀ e ∈ es, e.f1 ≠ a) : prevS es a b = [] := by
  cases hp : prevS es a b with
  | nil => rfl
  | cons x xs =>
    obtain ⟨e, he, _, h1, _⟩ := prev_mem (a := a) (b := b) (x := x) (es := es) (by rw [hp]; simp)
    exact absurd h1 (h e he)
theorem mem_pairs_snoc {e : S36} {a b : Int} : (a, b) ∈ pairs (es ++ [e]) ↔ (a, b) ∈ pairs es ∨ (e.f0 = a ∧ e.f1 = b) := by
  rw [mem_pairs, mem_pairs]
  constructor
  · rintro ⟨x, hx, h⟩
    rcases List.mem_append.1 hx with hx | hx
    · exact .inl ⟨x, hx, h⟩
    · rw [List.mem_singleton.1 hx] at h; exact .inr h
  · rintro (⟨x, hx, h⟩ | h)
    · exact ⟨x, List.mem_append_left _ hx, h⟩
    · exact ⟨e, by simp, h⟩
theorem way_first {E : List (Int × Int)} {ok : Int → Prop} {v b : Int} (h : Way E ok v b) : ∃ c, (v, c) ∈ E := by
  induction h with
  | one e _ => exact ⟨_, e⟩
  | step _ _ _ ih => exact ih
theorem accept_more (h : Accept ns es) (v : Nat) (hv : v < ns.length) (hk : 1 ≤ ns[v].f0 ∧ ns[v].f0 ≤ 10) (hd : ns[v].f3 = 0) (hn : ns.length < 12) (he : es.length < 24) :
    Accept (ns ++ [cap]) (es ++ [⟨(v : Int), (ns.length : Int), 0⟩]) := by
  have hE : ∀ e ∈ es, 0 ≤ e.f0 ∧ e.f0 < (ns.length : Int) ∧ 0 ≤ e.f1 ∧ e.f1 < (ns.length : Int) := fun e he => edge_range (h.edges e he)
  have hrv : rd_T23 (ns ++ [cap]) (v : Int) = ns[v] := by rw [rd_snoc_old (by omega) (by omega)]; exact rdN hv
  refine ⟨?_, ?_, ?_, ?_, ?_, ?_, ?_⟩
  · have := h.size
    unfold SizeP at *
    rw [List.length_append, List.length_append]
    simp only [List.length_singleton]
    omega
  · intro n hm
    rcases List.mem_append.1 hm with hm | hm
    · exact h.nodes n hm
    · rw [List.mem_singleton.1 hm]
      exact (by decide : nodeP 11 0 0 0)
  · intro e hm
    rcases List.mem_append.1 hm with hm | hm
    · have := h.edges e hm
      exact ⟨this.1, mem_locs_snoc.2 (.inl this.2.1), mem_locs_snoc.2 (.inl this.2.2)⟩
    · rw [List.mem_singleton.1 hm]
      refine ⟨by show (0 : Int) ≠ -1; decide, mem_locs_snoc.2 (.inl ?_), mem_locs_snoc.2 (.inr rfl)⟩
      refine mem_locsFrom.2 ⟨v, hv, by simp, ?_, ?_⟩
      · unfold headS; rw [if_pos hk]; exact Int.le_refl _
      · have := insS_bd ns[v].f0
        show (-1 : Int) < _
        omega
  · intro e hm
    rcases List.mem_append.1 hm with hm | hm
    · have := h.depths e hm
      obtain ⟨a, b, c, d⟩ := hE e hm
      unfold DepthP nd at *
      rw [rd_snoc_old a b, rd_snoc_old c d]
      exact this
    · rw [List.mem_singleton.1 hm]
      unfold DepthP nd
      show (rd_T23 (ns ++ [cap]) (v : Int)).f3 = inS (rd_T23 (ns ++ [cap]) (ns.length : Int)).f0 (rd_T23 (ns ++ [cap]) (ns.length : Int)).f3
      rw [hrv, rd_snoc_new, hd]
      rfl
  · intro l hm hp
    rcases mem_locs_snoc.1 hm with hm | hm
    · have hr := mem_locs_range hm
      rw [prev_append, prev_other _ _ _ (by show (ns.length : Int) ≠ l.f0; omega), List.append_nil]
      exact h.ports l hm hp
    · rw [hm, prev_append, prev_none (fun e he => by have := hE e he; show e.f1 ≠ (ns.length : Int); omega)]
      show (prevS [_] (ns.length : Int) 0).length = 1
      rw [prev_one (⟨(v : Int), (ns.length : Int), 0⟩ : S36)]
      rfl
  · intro l hm hp hq
    rcases mem_locs_snoc.1 hm with hm | hm
    · have hr := mem_locs_range hm
      have e1 : nd (ns ++ [cap]) l.f0 = nd ns l.f0 := rd_snoc_old hr.1 hr.2
      rw [e1] at hq
      have h1 := h.ports l hm hp
      have h2 := h.routes l hm hp hq
      rw [prev_append, prev_other _ _ _ (by show (ns.length : Int) ≠ l.f0; omega), List.append_nil]
      obtain ⟨x, hx⟩ := List.length_eq_one_iff.1 h1
      rw [hx] at h2 ⊢
      obtain ⟨e, hem, hex, _⟩ := prev_mem (a := l.f0) (b := l.f1) (x := x) (es := es) (by rw [hx]; simp)
      obtain ⟨a, b, _⟩ := hE e hem
      have e2 : rd [x] 0 = x := rfl
      rw [e2] at h2 ⊢
      unfold nd at h2 ⊢
      rw [rd_snoc_old (by omega) (by omega)]
      exact h2
    · exfalso
      rw [hm] at hq
      unfold nd at hq
      have e3 : (rd_T23 (ns ++ [cap]) (ns.length : Int)).f0 = 11 := by rw [rd_snoc_new]; rfl
      simp only [e3] at hq
      omega
  · intro u hu hk10 hr
    rw [List.length_append, List.length_singleton] at hu
    have out : ∀ b, ((ns.length : Int), b) ∉ pairs (es ++ [⟨(v : Int), (ns.length : Int), 0⟩]) := fun b hb => by
      rcases mem_pairs_snoc.1 hb with hb | hb
      · obtain ⟨e, hem, h1, _⟩ := mem_pairs.1 hb
        have := hE e hem
        omega
      · have := hb.1
        simp only at this
        omega
    by_cases c : u = ns.length
    · subst c
      obtain ⟨b, hb⟩ := way_first hr
      exact out b hb
    · have hu' : u < ns.length := by omega
      have eu : rd_T23 (ns ++ [cap]) (u : Int) = rd_T23 ns (u : Int) := rd_snoc_old (by omega) (by omega)
      refine h.cycles u hu' (by unfold nd at hk10 ⊢; rwa [eu] at hk10) ?_
      unfold RoundP at hr ⊢
      rw [eu] at hr
      have okk : ∀ b, 0 ≤ b → b < (ns.length : Int) → okB (ns ++ [cap]) (lowS (rd_T23 ns (u : Int))) b = true → okB ns (lowS (rd_T23 ns (u : Int))) b = true := fun b h0 h1 hb => by
        unfold okB at hb ⊢
        rwa [rd_snoc_old h0 h1] at hb
      have key : ∀ b, Way (pairs (es ++ [⟨(v : Int), (ns.length : Int), 0⟩])) (fun b => okB (ns ++ [cap]) (lowS (rd_T23 ns (u : Int))) b = true) (u : Int) b → b = (ns.length : Int) ∨ Way (pairs es) (fun b => okB ns (lowS (rd_T23 ns (u : Int))) b = true) (u : Int) b := by
        intro b hb
        induction hb with
        | one e k =>
          rcases mem_pairs_snoc.1 e with e | e
          · obtain ⟨x, hx, _, h2⟩ := mem_pairs.1 e
            have := hE x hx
            exact .inr (.one e (okk _ (by omega) (by omega) k))
          · exact .inl e.2.symm
        | step hw e k ih =>
          rcases ih with ih | ih
          · rw [ih] at e; exact absurd e (out _)
          · rcases mem_pairs_snoc.1 e with e | e
            · obtain ⟨x, hx, _, h2⟩ := mem_pairs.1 e
              have := hE x hx
              exact .inr (.step ih e (okk _ (by omega) (by omega) k))
            · exact .inl e.2.symm
      rcases key _ hr with e | e
      · omega
      · exact e
theorem refused_ports {fs : List S36} (h : Accept ns es) (hl : fs.length ≤ 24) (hs : ∀ e ∈ fs, e ∈ es) (e : S36) (he : e ∈ es) (hp : (prevS fs e.f1 e.f2).length ≠ 1) : graphS ns fs = 13 := by
  have hz := h.size
  have h3 : EdgesP ns fs := fun x hx => h.edges x (hs x hx)
  have h4 : DepthsP ns fs := fun x hx => h.depths x (hs x hx)
  unfold graphS
  rw [if_neg (not_not_intro (by unfold SizeP at *; omega)), if_neg (not_not_intro h.nodes), if_neg (not_not_intro h3), if_neg (not_not_intro h4), if_pos]
  intro hP
  have h1 := h.edges e he
  exact hp (hP _ h1.2.2 h1.1)
theorem refused_less (h : Accept ns es) (k : Nat) (hk : k < es.length) : graphS ns (es.take k ++ es.drop (k + 1)) = 13 := by
  have hz := h.size
  unfold SizeP at hz
  have h1 := h.edges es[k] (List.getElem_mem hk)
  have h2 := h.ports _ h1.2.2 h1.1
  refine refused_ports h (by rw [List.length_append, List.length_take, List.length_drop]; omega) (fun e he => ?_) es[k] (List.getElem_mem hk) ?_
  · rcases List.mem_append.1 he with he | he
    · exact List.mem_of_mem_take he
    · exact List.mem_of_mem_drop he
  · have e : prevS es es[k].f1 es[k].f2 = prevS (es.take k) es[k].f1 es[k].f2 ++ ([es[k].f0] ++ prevS (es.drop (k + 1)) es[k].f1 es[k].f2) := by
      rw [← prev_one es[k], ← prev_append, ← prev_append]
      congr 1
      rw [List.singleton_append, List.getElem_cons_drop, List.take_append_drop]
    simp only at h2
    rw [e] at h2
    rw [prev_append]
    simp only [List.length_append, List.length_singleton] at h2 ⊢
    omega
theorem refused_twice (h : Accept ns es) (k : Nat) (hk : k < es.length) (hl : es.length < 24) : graphS ns (es ++ [es[k]]) = 13 := by
  have h1 := h.edges es[k] (List.getElem_mem hk)
  have h2 := h.ports _ h1.2.2 h1.1
  refine refused_ports h (by rw [List.length_append, List.length_singleton]; omega) (fun e he => ?_) es[k] (List.getElem_mem hk) ?_
  · rcases List.mem_append.1 he with he | he
    · exact he
    · rw [List.mem_singleton.1 he]; exact List.getElem_mem hk
  · simp only at h2
    rw [prev_append, prev_one, List.length_append, h2, List.length_singleton]
    decide
end
end Go.Proofs.Ytjlnjlnecipllaa.Pure
