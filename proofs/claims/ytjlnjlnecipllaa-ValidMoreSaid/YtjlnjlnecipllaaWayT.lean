/- Plain lemmas on ways along edges, and on the document's search. No program, no conditions. -/
import Derived.Test.YtjlnjlnecipllaaPAllx0
namespace Go.Proofs.Ytjlnjlnecipllaa.Pure
/-- A way: from v along edges, at least one, each end being one that may be passed. -/
inductive Way (E : List (Int × Int)) (ok : Int → Prop) (v : Int) : Int → Prop
  | one {b : Int} : (v, b) ∈ E → ok b → Way E ok v b
  | step {a b : Int} : Way E ok v a → (a, b) ∈ E → ok b → Way E ok v b
theorem Way.closed {E : List (Int × Int)} {ok : Int → Prop} {v : Int} (S : Int → Prop) (h1 : ∀ b, (v, b) ∈ E → ok b → S b) (h2 : ∀ a b, S a → (a, b) ∈ E → ok b → S b) {b : Int} (h : Way E ok v b) : S b := by
  induction h with
  | one e k => exact h1 _ e k
  | step _ e k ih => exact h2 _ _ ih e k
theorem Way.trans {E : List (Int × Int)} {ok : Int → Prop} {u v w : Int} (h : Way E ok u v) (k : Way E ok v w) : Way E ok u w := by
  induction k with
  | one e k => exact .step h e k
  | step _ e k ih => exact .step ih e k

/-- A row of nodes, each an edge behind the one ahead of it. -/
def Chain (E : List (Int × Int)) (v : Int) : List Int → Prop
  | [] => True
  | b :: l => (v, b) ∈ E ∧ Chain E b l
theorem chain_snoc {E : List (Int × Int)} {l : List Int} {v b : Int} : Chain E v (l ++ [b]) ↔ Chain E v l ∧ (l.getLastD v, b) ∈ E := by
  induction l generalizing v with
  | nil => simp [Chain]
  | cons a l ih =>
    simp only [List.cons_append, Chain, ih, and_assoc, List.getLastD_cons]
theorem chain_way {E : List (Int × Int)} {ok : Int → Prop} {v : Int} (l : List Int) (h : Chain E v l) (hok : ∀ b ∈ l, ok b) (hne : l ≠ []) : Way E ok v (l.getLastD v) := by
  induction l generalizing v with
  | nil => exact absurd rfl hne
  | cons a l ih =>
    obtain ⟨h1, h2⟩ := h
    have h3 : Way E ok v a := .one h1 (hok a (by simp))
    cases l with
    | nil => simpa using h3
    | cons c l =>
      have := ih h2 (fun b hb => hok b (List.mem_cons_of_mem _ hb)) (by simp)
      have := h3.trans this
      rw [List.getLastD_cons] at this ⊢
      rw [List.getLastD_cons]
      exact this
/-- Round: a row of nodes that ends where it began leads from each of its nodes back to it. -/
theorem chain_round {E : List (Int × Int)} {ok : Int → Prop} {v : Int} (l : List Int) (h : Chain E v l) (hok : ∀ b ∈ l, ok b) (hl : l.getLastD v = v) {u : Int} (hu : u ∈ l) : Way E ok u u := by
  obtain ⟨a, b, rfl⟩ := List.append_of_mem hu
  have key : ∀ (a : List Int) (w : Int), Chain E w (a ++ u :: b) → Chain E w (a ++ [u]) ∧ Chain E u b := by
    intro a
    induction a with
    | nil => intro w hw; exact ⟨⟨hw.1, trivial⟩, hw.2⟩
    | cons c a ih => intro w hw; exact ⟨⟨hw.1, (ih c hw.2).1⟩, (ih c hw.2).2⟩
  obtain ⟨h1, h2⟩ := key a v h
  have w1 : Way E ok v u := by
    have := chain_way (a ++ [u]) h1 (fun x hx => hok x (by simp at hx ⊢; rcases hx with hx | hx; exact .inl hx; exact .inr (.inl hx))) (by simp)
    simpa using this
  cases b with
  | nil =>
    have : u = v := by simpa using hl
    subst this; exact w1
  | cons c b =>
    have w2 := chain_way (c :: b) h2 (fun x hx => hok x (by simp at hx ⊢; exact .inr (.inr hx))) (by simp)
    have e : (c :: b).getLastD u = v := by
      have : (a ++ u :: c :: b).getLastD v = (c :: b).getLastD u := by
        rw [List.getLastD_eq_getLast?, List.getLastD_eq_getLast?, List.getLast?_append]
        rw [List.getLast?_cons_cons]
        rw [List.getLast?_eq_some_getLast (l := c :: b) (by simp)]
        rfl
      rw [← this]; exact hl
    rw [e] at w2
    exact w2.trans w1

/-! The document's search: each edge in turn, as often as there are nodes. -/
def tick (seen : List Bool) (i : Int) : Bool := seen.getD i.toNat false
def relax (ok : Int → Bool) (v : Int) (seen : List Bool) (e : Int × Int) : List Bool :=
  if ok e.2 = true ∧ (e.1 = v ∨ tick seen e.1 = true) then seen.set e.2.toNat true else seen
def pass (ok : Int → Bool) (v : Int) (E : List (Int × Int)) (seen : List Bool) : List Bool := E.foldl (relax ok v) seen
theorem tick_set {seen : List Bool} {i j : Int} (hi : 0 ≤ i) (hj : 0 ≤ j) : tick (seen.set i.toNat true) j = true ↔ (j = i ∧ i < seen.length) ∨ tick seen j = true := by
  unfold tick
  rw [List.getD_eq_getElem?_getD, List.getD_eq_getElem?_getD, List.getElem?_set]
  by_cases h : i.toNat = j.toNat
  · rw [if_pos h]
    have : i = j := by omega
    subst this
    by_cases h2 : i.toNat < seen.length
    · rw [if_pos h2]; simp; left; omega
    · rw [if_neg h2]
      rw [List.getElem?_eq_none (by omega)]
      simp; omega
  · rw [if_neg h]
    constructor
    · exact .inr
    · rintro (⟨h1, _⟩ | h1)
      · exact absurd (by rw [h1]) h
      · exact h1
theorem relax_length (ok : Int → Bool) (v : Int) (seen : List Bool) (e : Int × Int) : (relax ok v seen e).length = seen.length := by
  unfold relax; split <;> simp
theorem pass_length (ok : Int → Bool) (v : Int) (E : List (Int × Int)) (seen : List Bool) : (pass ok v E seen).length = seen.length := by
  unfold pass
  induction E generalizing seen with
  | nil => rfl
  | cons e E ih => rw [List.foldl_cons, ih, relax_length]
/-- How many are seen. -/
def cnt (seen : List Bool) : Nat := seen.count true
theorem cnt_le (seen : List Bool) : cnt seen ≤ seen.length := List.count_le_length
theorem cnt_set (seen : List Bool) (i : Nat) : (seen.set i true = seen) ∨ cnt (seen.set i true) = cnt seen + 1 := by
  induction seen generalizing i with
  | nil => left; rfl
  | cons b seen ih =>
    cases i with
    | zero => cases b <;> simp [cnt]
    | succ i =>
      rcases ih i with h | h
      · left; simp [h]
      · right; unfold cnt at *; cases b <;> simp [h]
theorem relax_cnt (ok : Int → Bool) (v : Int) (seen : List Bool) (e : Int × Int) : relax ok v seen e = seen ∨ cnt (relax ok v seen e) = cnt seen + 1 := by
  unfold relax; split
  · exact cnt_set _ _
  · exact .inl rfl
theorem pass_cnt (ok : Int → Bool) (v : Int) (E : List (Int × Int)) (seen : List Bool) : (∀ e ∈ E, relax ok v seen e = seen) ∨ cnt (pass ok v E seen) ≥ cnt seen + 1 := by
  unfold pass
  induction E generalizing seen with
  | nil => left; intro e he; cases he
  | cons e E ih =>
    rw [List.foldl_cons]
    have hge : cnt (E.foldl (relax ok v) (relax ok v seen e)) ≥ cnt (relax ok v seen e) := by
      rcases ih (relax ok v seen e) with h | h
      · have : E.foldl (relax ok v) (relax ok v seen e) = relax ok v seen e := by
          clear ih
          induction E with
          | nil => rfl
          | cons e' E ih' => rw [List.foldl_cons, h e' (by simp)]; exact ih' (fun x hx => h x (List.mem_cons_of_mem _ hx))
        rw [this]; exact Nat.le_refl _
      · omega
    rcases relax_cnt ok v seen e with h | h
    · rw [h]
      rcases ih seen with h2 | h2
      · left
        intro x hx
        rcases List.mem_cons.1 hx with rfl | hx
        · exact h
        · exact h2 x hx
      · exact .inr h2
    · right; omega
theorem pass_same {ok : Int → Bool} {v : Int} {E : List (Int × Int)} {seen : List Bool} (h : ∀ e ∈ E, relax ok v seen e = seen) : pass ok v E seen = seen := by
  unfold pass
  induction E with
  | nil => rfl
  | cons e E ih => rw [List.foldl_cons, h e (by simp)]; exact ih (fun x hx => h x (List.mem_cons_of_mem _ hx))
def passes (ok : Int → Bool) (v : Int) (E : List (Int × Int)) (n : Nat) : Nat → List Bool
  | 0 => List.replicate n false
  | k + 1 => pass ok v E (passes ok v E n k)
theorem passes_length (ok : Int → Bool) (v : Int) (E : List (Int × Int)) (n k : Nat) : (passes ok v E n k).length = n := by
  induction k with
  | zero => simp [passes]
  | succ k ih => simp [passes, pass_length, ih]
theorem passes_cnt (ok : Int → Bool) (v : Int) (E : List (Int × Int)) (n k : Nat) : (∀ e ∈ E, relax ok v (passes ok v E n k) e = passes ok v E n k) ∨ cnt (passes ok v E n k) ≥ k := by
  induction k with
  | zero => right; exact Nat.zero_le _
  | succ k ih =>
    simp only [passes]
    rcases ih with h | h
    · left; rw [pass_same h]; exact h
    · rcases pass_cnt ok v E (passes ok v E n k) with h2 | h2
      · left; rw [pass_same h2]; exact h2
      · right; omega
theorem all_of_cnt (seen : List Bool) (h : cnt seen ≥ seen.length) : ∀ b ∈ seen, b = true := by
  have h1 : seen.count true = seen.length := Nat.le_antisymm List.count_le_length h
  exact List.count_eq_length.1 h1 |> fun h b hb => (h b hb).symm
/-- What the document's search comes to. -/
theorem passes_way (ok : Int → Bool) (v : Int) (E : List (Int × Int)) (n : Nat) (hE : ∀ e ∈ E, 0 ≤ e.1 ∧ 0 ≤ e.2 ∧ e.2 < n) (b : Int) (hb : 0 ≤ b ∧ b < n) :
    tick (passes ok v E n n) b = true ↔ Way E (fun x => ok x = true) v b := by
  constructor
  · have rel : ∀ (E' : List (Int × Int)) (seen : List Bool), seen.length = n → (∀ e ∈ E', e ∈ E) → (∀ x, 0 ≤ x → tick seen x = true → Way E (fun x => ok x = true) v x) → (∀ x, 0 ≤ x → tick (pass ok v E' seen) x = true → Way E (fun x => ok x = true) v x) := by
      intro E'
      induction E' with
      | nil => intro seen _ _ h; exact h
      | cons e E' ih =>
        intro seen hs hsub h
        refine ih (relax ok v seen e) (by rw [relax_length]; exact hs) (fun x hx => hsub x (List.mem_cons_of_mem _ hx)) ?_
        have he := hsub e (by simp)
        intro x hx
        unfold relax
        split
        · rename_i hc
          rw [tick_set (hE e he).2.1 hx]
          rintro (⟨h1, _⟩ | h1)
          · subst h1
            rcases hc.2 with h2 | h2
            · exact .one (by rw [← h2]; exact he) hc.1
            · exact .step (h _ (hE e he).1 h2) he hc.1
          · exact h x hx h1
        · exact h x hx
    have all : ∀ k x, 0 ≤ x → tick (passes ok v E n k) x = true → Way E (fun x => ok x = true) v x := by
      intro k
      induction k with
      | zero =>
        intro x _ h
        exfalso
        simp only [passes, tick, List.getD_eq_getElem?_getD, List.getElem?_replicate] at h
        split at h <;> simp at h
      | succ k ih => exact rel E _ (passes_length ..) (fun e he => he) ih
    exact all n b hb.1
  · intro hw
    have closed : ∀ e ∈ E, ok e.2 = true → (e.1 = v ∨ tick (passes ok v E n n) e.1 = true) → tick (passes ok v E n n) e.2 = true := by
      intro e he h1 h2
      rcases passes_cnt ok v E n n with h | h
      · have h3 := h e he
        unfold relax at h3
        rw [if_pos ⟨h1, h2⟩] at h3
        rw [← h3, tick_set (hE e he).2.1 (hE e he).2.1]
        left
        exact ⟨rfl, by rw [passes_length]; exact (hE e he).2.2⟩
      · have h3 := all_of_cnt _ (by rw [passes_length]; exact h)
        unfold tick
        have h4 : e.2.toNat < (passes ok v E n n).length := by rw [passes_length]; have := hE e he; omega
        rw [List.getD_eq_getElem?_getD, List.getElem?_eq_getElem h4]
        exact h3 _ (List.getElem_mem h4)
    exact hw.closed (fun x => tick (passes ok v E n n) x = true) (fun b hb hk => closed _ hb hk (.inl rfl)) (fun a b ha hb hk => closed _ hb hk (.inr ha))
end Go.Proofs.Ytjlnjlnecipllaa.Pure
