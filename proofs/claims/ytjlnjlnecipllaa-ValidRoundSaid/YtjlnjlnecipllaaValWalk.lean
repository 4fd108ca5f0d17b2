/- Plain lemmas: what a walk along edges does to times (ValidRound). No program in sight. -/
import Derived.Test.YtjlnjlnecipllaaValGraph
import Derived.Test.YtjlnjlnecipllaaGraInner
import Derived.Test.YtjlnjlnecipllaaPAllx16
import Derived.Test.YtjlnjlnecipllaaPAllx17
namespace Go.Proofs.Ytjlnjlnecipllaa.Pure
open Go.RowKit Go.Proofs.Ytjlnjlnecipllaa.PAll Go.Proofs.YtjlnjlnecipllaaW.PrintWords Go.Proofs.YtjlnjlnecipllaaW.PrintLast Go.Proofs.YtjlnjlnecipllaaW.PrintMore
set_option linter.unusedVariables false
set_option linter.unusedSimpArgs false

theorem rdepth_s (d : Int) : meanderref02_depth.f d = some (decide (0 ≤ d ∧ d ≤ 3)) := by
  unfold meanderref02_depth.f
  by_cases h : d ≥ 0
  · rw [if_pos h]; simp only [Option.some.injEq, decide_eq_decide]; omega
  · rw [if_neg h]; simp only [Option.some.injEq]; exact (decide_eq_false (by omega)).symm
theorem rsame_s (d : Int) : meanderref02_Same.f d = some (sameS d) := by
  unfold meanderref02_Same.f sameS
  rw [rdepth_s]
  by_cases h : 0 ≤ d ∧ d ≤ 3
  · simp only [Option.bind_some, decide_eq_true h, if_true, if_pos h]
  · simp only [Option.bind_some, decide_eq_false h, if_neg h]; rfl
/-- What a node does, by its numbers. -/
theorem inner_facts (k a b d : Int) (h : nodeP k a b d) (hk : 2 ≤ k ∧ k ≤ 10) : ∃ r1 r2 r3 r4 r5 r6 r7 : Int, innerS k d = (r1, r2, r3, r4, r5, r6, r7) ∧ r1 = inS k d ∧ r2 = d ∧ r4 = 0 ∧ 0 ≤ r1 ∧ r1 ≤ 3 ∧ mn (inS k d) d ≤ r3 ∧ 0 ≤ r3 ∧ r3 ≤ r1 ∧ r3 ≤ r2 ∧
    0 ≤ r5 ∧ r5 ≤ 1 ∧ 0 ≤ r6 ∧ r6 ≤ 1 ∧ 0 ≤ r7 ∧ r7 ≤ 1 ∧ (d ≤ 0 → r5 = 0) ∧ (d ≤ 1 → r6 = 0) ∧ (d ≤ 2 → r7 = 0) ∧ (k = 10 → d = 1 → r5 = 1) ∧ (k = 10 → d = 2 → r6 = 1) ∧ (k = 10 → d = 3 → r7 = 1) := by
  obtain ⟨h0, h3, hp⟩ := h
  unfold kindP at hp
  unfold innerS inS mn
  by_cases h8 : k = 8
  · subst h8
    have hd : 0 < d := by simpa using hp.2.2
    refine ⟨d - 1, d, d - 1, 0, 0, 0, 0, ?_, ?_⟩
    · unfold enterS; rw [if_pos rfl, if_pos (by omega)]; congr 2; omega
    · refine ⟨rfl, rfl, rfl, by omega, by omega, ?_, by omega, by omega, by omega, by omega, by omega, by omega, by omega, by omega, by omega, fun _ => rfl, fun _ => rfl, fun _ => rfl, by omega, by omega, by omega⟩
      rw [if_pos rfl]; split <;> omega
  · by_cases h9 : k = 9
    · subst h9
      have hd : d < 3 := by simpa using hp.2.2
      refine ⟨d + 1, d, d, 0, 0, 0, 0, ?_, ?_⟩
      · unfold leaveS; rw [if_neg h8, if_pos rfl, if_pos (by omega), show d + 1 - 1 = d by omega]
      · refine ⟨rfl, rfl, rfl, by omega, by omega, ?_, by omega, by omega, by omega, by omega, by omega, by omega, by omega, by omega, by omega, fun _ => rfl, fun _ => rfl, fun _ => rfl, by omega, by omega, by omega⟩
        rw [if_neg h8, if_pos rfl]; split <;> omega
    · rw [if_neg h8, if_neg h9, if_neg h8, if_neg h9]
      by_cases h10 : k = 10
      · subst h10
        have hd : 0 < d := by simpa using hp.2.2.2
        rw [if_pos rfl]
        unfold feedS
        have : d = 1 ∨ d = 2 ∨ d = 3 := by omega
        rcases this with rfl | rfl | rfl
        · exact ⟨1, 1, 1, 0, 1, 0, 0, rfl, rfl, rfl, rfl, by omega, by omega, by simp, by omega, by omega, by omega, by omega, by omega, by omega, by omega, by omega, by omega, by omega, by omega, by omega, by omega, by omega, by omega⟩
        · exact ⟨2, 2, 2, 0, 0, 1, 0, rfl, rfl, rfl, rfl, by omega, by omega, by simp, by omega, by omega, by omega, by omega, by omega, by omega, by omega, by omega, by omega, by omega, by omega, by omega, by omega, by omega, by omega⟩
        · exact ⟨3, 3, 3, 0, 0, 0, 1, rfl, rfl, rfl, rfl, by omega, by omega, by simp, by omega, by omega, by omega, by omega, by omega, by omega, by omega, by omega, by omega, by omega, by omega, by omega, by omega, by omega, by omega⟩
      · rw [if_neg h10, if_pos (by omega)]
        refine ⟨d, d, d, 0, 0, 0, 0, ?_, ?_⟩
        · unfold sameS; rw [if_pos ⟨h0, h3⟩]
        · refine ⟨rfl, rfl, rfl, by omega, by omega, ?_, by omega, by omega, by omega, by omega, by omega, by omega, by omega, by omega, by omega, fun _ => rfl, fun _ => rfl, fun _ => rfl, by omega, by omega, by omega⟩
          split <;> omega
/-- One counter behind the step. -/
theorem pick_facts (r2 r3 s r L j : Int) (h : r3 ≤ r2) (hs : 0 ≤ s ∧ s ≤ L) (hr : 0 ≤ r ∧ r ≤ 1) : 0 ≤ (if j < r2 then (if j < r3 then s + r else r) else 0) ∧ (if j < r2 then (if j < r3 then s + r else r) else 0) ≤ L + 1 ∧
    (r2 ≤ j → (if j < r2 then (if j < r3 then s + r else r) else 0) = 0) ∧ (j < r3 → (if j < r2 then (if j < r3 then s + r else r) else 0) = s + r) := by
  by_cases h1 : j < r2
  · rw [if_pos h1]
    by_cases h2 : j < r3
    · rw [if_pos h2]; omega
    · rw [if_neg h2]; omega
  · rw [if_neg h1]; omega
section
variable {ns : List S23} {es : List S36} {v : Int}
/-- What holds of a walk: the nodes behind v, and what they do to times. -/
structure WalkI (ns : List S23) (es : List S36) (v : Int) (hist : List Int) (at_ s1 s2 s3 s4 s5 s6 s7 : Int) : Prop where
  ch : Chain (pairs es) v hist
  la : hist.getLastD v = at_
  rg : ∀ b ∈ hist, 0 ≤ b ∧ b < (ns.length : Int)
  e1 : s1 = (nd ns v).f3
  e2 : s2 = (nd ns at_).f3
  b1 : 0 ≤ s1 ∧ s1 ≤ 3 ∧ 0 ≤ s2 ∧ s2 ≤ 3
  k3 : 0 ≤ s3 ∧ s3 ≤ s1 ∧ s3 ≤ s2
  e4 : s4 = 0
  a5 : 0 ≤ s5 ∧ s5 ≤ (hist.length : Int)
  a6 : 0 ≤ s6 ∧ s6 ≤ (hist.length : Int)
  a7 : 0 ≤ s7 ∧ s7 ≤ (hist.length : Int)
  z : (s2 ≤ 0 → s5 = 0) ∧ (s2 ≤ 1 → s6 = 0) ∧ (s2 ≤ 2 → s7 = 0)
  q1 : (∀ b ∈ hist, 1 ≤ lowS (nd ns b)) → (∃ b ∈ hist, (nd ns b).f0 = 10 ∧ (nd ns b).f3 = 1) → 1 ≤ s5
  q2 : (∀ b ∈ hist, 2 ≤ lowS (nd ns b)) → (∃ b ∈ hist, (nd ns b).f0 = 10 ∧ (nd ns b).f3 = 2) → 1 ≤ s6
  q3 : (∀ b ∈ hist, 3 ≤ lowS (nd ns b)) → (∃ b ∈ hist, (nd ns b).f0 = 10 ∧ (nd ns b).f3 = 3) → 1 ≤ s7
theorem nd_mem {i : Int} (h : 0 ≤ i ∧ i < (ns.length : Int)) : nd ns i ∈ ns := mem_rdN h.1 h.2
theorem walk_may {hist : List Int} {at_ s1 s2 s3 s4 s5 s6 s7 : Int} (I : WalkI ns es v hist at_ s1 s2 s3 s4 s5 s6 s7) (hl : hist.length ≤ 100) : meanderref02_May.P s1 s2 s3 s4 s5 s6 s7 := by
  have := I.b1; have := I.k3; have := I.e4; have := I.a5; have := I.a6; have := I.a7; have := I.z
  unfold meanderref02_May.P
  omega
/-- One step. -/
theorem walk_step (hA : Accept ns es) {hist : List Int} {at_ s1 s2 s3 s4 s5 s6 s7 : Int} (I : WalkI ns es v hist at_ s1 s2 s3 s4 s5 s6 s7) (hl : hist.length ≤ 99) (e : S36) (he : e ∈ es) (h0 : e.f0 = at_) (hk : 1 ≤ (nd ns e.f1).f0 ∧ (nd ns e.f1).f0 ≤ 10) :
    ∃ r1 r2 r3 r4 r5 r6 r7 t1 t2 t3 t4 t5 t6 t7 : Int, innerS (nd ns e.f1).f0 (nd ns e.f1).f3 = (r1, r2, r3, r4, r5, r6, r7) ∧ meanderref02_Then.f s1 s2 s3 s4 s5 s6 s7 r1 r2 r3 r4 r5 r6 r7 = some (t1, t2, t3, t4, t5, t6, t7, 0) ∧ WalkI ns es v (hist ++ [e.f1]) e.f1 t1 t2 t3 t4 t5 t6 t7 := by
  have hE := hA.edges e he
  have hr := edge_range hE
  have hn := hA.nodes _ (nd_mem ⟨hr.2.2.1, hr.2.2.2⟩)
  have hD := hA.depths e he
  unfold DepthP at hD
  have hk2 : 2 ≤ (nd ns e.f1).f0 := by
    obtain ⟨j, hj, h1, h2, h3⟩ := mem_locsFrom.1 hE.2.2
    have hnd : nd ns e.f1 = ns[j] := by
      have : e.f1 = ((j : Nat) : Int) := by simpa using h1
      rw [this]; exact rdN hj
    have hne := hE.1
    rw [← hnd] at h2 h3
    simp only at h2 h3
    unfold headS at h2
    unfold insS at h3
    by_cases c : (nd ns e.f1).f0 = 1
    · rw [c] at h2 h3; simp at h2 h3; omega
    · omega
  obtain ⟨r1, r2, r3, r4, r5, r6, r7, hi, f1, f2, f4, g1, g2, f3, g3, g4, g5, g6, g7, g8, g9, g10, g11, g12, g13, g14, g15, g16, g17⟩ := inner_facts _ _ _ _ hn ⟨hk2, hk.2⟩
  have hs := walk_may I (by omega)
  have hd := hn.1
  have hd3 := hn.2.1
  have b1 := I.b1; have k3 := I.k3; have e4 := I.e4; have a5 := I.a5; have a6 := I.a6; have a7 := I.a7
  have e21 : s2 = r1 := by rw [I.e2, f1, ← h0]; exact hD
  have hr' : meanderref02_May.P r1 r2 r3 r4 r5 r6 r7 := by unfold meanderref02_May.P; omega
  obtain ⟨o5a, o5b, o5c, o5d⟩ := pick_facts r2 r3 s5 r5 hist.length 0 g5 a5 ⟨g6, g7⟩
  obtain ⟨o6a, o6b, o6c, o6d⟩ := pick_facts r2 r3 s6 r6 hist.length 1 g5 a6 ⟨g8, g9⟩
  obtain ⟨o7a, o7b, o7c, o7d⟩ := pick_facts r2 r3 s7 r7 hist.length 2 g5 a7 ⟨g10, g11⟩
  refine ⟨r1, r2, r3, r4, r5, r6, r7, s1, r2, (if r3 < s3 then r3 else s3), s4 + r4, (if 0 < r2 then (if 0 < r3 then s5 + r5 else r5) else 0), (if 1 < r2 then (if 1 < r3 then s6 + r6 else r6) else 0), (if 2 < r2 then (if 2 < r3 then s7 + r7 else r7) else 0), hi, ?_, ?_⟩
  · unfold meanderref02_Then.f
    refine if_pos ⟨hs, hr', e21, ?_⟩
    generalize (if 0 < r2 then (if 0 < r3 then s5 + r5 else r5) else 0) = o5 at *
    generalize (if 1 < r2 then (if 1 < r3 then s6 + r6 else r6) else 0) = o6 at *
    generalize (if 2 < r2 then (if 2 < r3 then s7 + r7 else r7) else 0) = o7 at *
    unfold meanderref02_May.P
    split <;> omega
  · generalize (if 0 < r2 then (if 0 < r3 then s5 + r5 else r5) else 0) = o5 at *
    generalize (if 1 < r2 then (if 1 < r3 then s6 + r6 else r6) else 0) = o6 at *
    generalize (if 2 < r2 then (if 2 < r3 then s7 + r7 else r7) else 0) = o7 at *
    have hlow : lowS (nd ns e.f1) ≤ r3 := f3
    have hlen : ((hist ++ [e.f1]).length : Int) = (hist.length : Int) + 1 := by simp
    refine ⟨chain_snoc.2 ⟨I.ch, by rw [I.la, ← h0]; exact mem_pairs.2 ⟨e, he, rfl, rfl⟩⟩, by simp, ?_, I.e1, f2, by omega, by split <;> omega, by omega, by omega, by omega, by omega, by omega, ?_, ?_, ?_⟩
    · intro b hb
      rcases List.mem_append.1 hb with hb | hb
      · exact I.rg b hb
      · obtain rfl : b = e.f1 := by simpa using hb
        exact ⟨hr.2.2.1, hr.2.2.2⟩
    · rintro hall ⟨b, hb, hb1, hb2⟩
      have hn1 := hall e.f1 (by simp)
      have := o5d (by omega)
      rcases List.mem_append.1 hb with hb | hb
      · have := I.q1 (fun x hx => hall x (List.mem_append.2 (.inl hx))) ⟨b, hb, hb1, hb2⟩
        omega
      · obtain rfl : b = e.f1 := by simpa using hb
        have := g15 hb1 hb2
        omega
    · rintro hall ⟨b, hb, hb1, hb2⟩
      have hn1 := hall e.f1 (by simp)
      have := o6d (by omega)
      rcases List.mem_append.1 hb with hb | hb
      · have := I.q2 (fun x hx => hall x (List.mem_append.2 (.inl hx))) ⟨b, hb, hb1, hb2⟩
        omega
      · obtain rfl : b = e.f1 := by simpa using hb
        have := g16 hb1 hb2
        omega
    · rintro hall ⟨b, hb, hb1, hb2⟩
      have hn1 := hall e.f1 (by simp)
      have := o7d (by omega)
      rcases List.mem_append.1 hb with hb | hb
      · have := I.q3 (fun x hx => hall x (List.mem_append.2 (.inl hx))) ⟨b, hb, hb1, hb2⟩
        omega
      · obtain rfl : b = e.f1 := by simpa using hb
        have := g17 hb1 hb2
        omega
theorem exists_min (f : Int → Int) (l : List Int) (h : l ≠ []) : ∃ u ∈ l, ∀ b ∈ l, f u ≤ f b := by
  induction l with
  | nil => exact absurd rfl h
  | cons a l ih =>
    by_cases hl : l = []
    · subst hl; exact ⟨a, by simp, fun b hb => by simp at hb; subst hb; omega⟩
    · obtain ⟨u, hu, hm⟩ := ih hl
      by_cases c : f a ≤ f u
      · exact ⟨a, by simp, fun b hb => by rcases List.mem_cons.1 hb with rfl | hb; exact Int.le_refl _; exact Int.le_trans c (hm b hb)⟩
      · exact ⟨u, List.mem_cons_of_mem _ hu, fun b hb => by rcases List.mem_cons.1 hb with rfl | hb; omega; exact hm b hb⟩
theorem last_mem {l : List Int} {v : Int} (h : l ≠ []) : l.getLastD v ∈ l := by
  rw [List.getLastD_eq_getLast?, List.getLast?_eq_some_getLast h]
  exact List.getLast_mem h
/-- A walk round is not at most nothing. -/
theorem walk_round (hA : Accept ns es) {hist : List Int} {s1 s2 s3 s4 s5 s6 s7 : Int} (I : WalkI ns es v hist v s1 s2 s3 s4 s5 s6 s7) (hne : hist ≠ []) : ¬ ((0 < s2 → s5 ≤ 0) ∧ (1 < s2 → s6 ≤ 0) ∧ (2 < s2 → s7 ≤ 0)) := by
  rintro ⟨c1, c2, c3⟩
  obtain ⟨u, hu, hmin⟩ := exists_min (fun b => lowS (nd ns b)) hist hne
  have hfeed : ∃ b ∈ hist, (nd ns b).f0 = 10 ∧ (nd ns b).f3 = lowS (nd ns u) := by
    by_cases hu10 : (nd ns u).f0 = 10
    · refine ⟨u, hu, hu10, ?_⟩
      unfold lowS inS mn
      rw [hu10]; simp
    · apply Classical.byContradiction
      intro hno
      have hur := I.rg u hu
      have hc := hA.cycles u.toNat (by omega)
      rw [show ((u.toNat : Nat) : Int) = u by omega] at hc
      refine hc hu10 ?_
      refine chain_round hist I.ch ?_ I.la hu
      intro b hb
      have h1 := hmin b hb
      have h2 : ¬ ((nd ns b).f0 = 10 ∧ (nd ns b).f3 = lowS (nd ns u)) := fun h => hno ⟨b, hb, h.1, h.2⟩
      unfold okB
      unfold nd at h1 h2
      simp only [Bool.not_eq_true', Bool.or_eq_false_iff, Bool.and_eq_false_iff, decide_eq_false_iff_not]
      refine ⟨by omega, ?_⟩
      by_cases c : (rd_T23 ns b).f0 = 10
      · exact .inr (fun h => h2 ⟨c, h⟩)
      · exact .inl c
  obtain ⟨b, hb, hb10, hbd⟩ := hfeed
  have hbn := hA.nodes _ (nd_mem (I.rg b hb))
  have hvm : v ∈ hist := by have := last_mem (v := v) hne; rwa [I.la] at this
  have hv := hmin v hvm
  have hlv : lowS (nd ns v) ≤ (nd ns v).f3 := by unfold lowS mn; split <;> omega
  have hd : 0 < (nd ns b).f3 := by
    have := hbn.2.2
    unfold kindP at this
    rw [hb10] at this
    simp at this
    exact this.2.2.2
  have hd3 := hbn.2.1
  have e2 := I.e2
  have : (nd ns b).f3 = 1 ∨ (nd ns b).f3 = 2 ∨ (nd ns b).f3 = 3 := by omega
  rcases this with h | h | h
  · have := I.q1 (fun x hx => by have := hmin x hx; omega) ⟨b, hb, hb10, h⟩
    have := c1 (by omega)
    omega
  · have := I.q2 (fun x hx => by have := hmin x hx; omega) ⟨b, hb, hb10, h⟩
    have := c2 (by omega)
    omega
  · have := I.q3 (fun x hx => by have := hmin x hx; omega) ⟨b, hb, hb10, h⟩
    have := c3 (by omega)
    omega
end
end Go.Proofs.Ytjlnjlnecipllaa.Pure
