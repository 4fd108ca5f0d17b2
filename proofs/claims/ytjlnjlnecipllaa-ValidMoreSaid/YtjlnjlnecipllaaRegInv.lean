/- A rule for a region that draws its order, behind what was taken first: it makes memory several times and ends in one operation that waits for all: instead of each order, a law of what is done (each operation is shown once). No program in sight. -/
import Derived.Orders
import Derived.Tactics2
import Derived.Test.YtjlnjlnecipllaaWMore
namespace Go.Proofs.Ytjlnjlnecipllaa.Hand
open Go Go.Proofs.YtjlnjlnecipllaaW.PrintLast
set_option linter.unusedVariables false
set_option linter.unusedSimpArgs false
section
variable {P : Program} {ops : Array Oper} {Q : Exit → Act → World → Prop} {md : Region.Mode} {S : World → Prop} {ds : List Nat}
/-- The act behind the operations L: what each has given stands in its slot, all else is as at the start. -/
structure Done (ops : Array Oper) (a0 : Act) (L : Nat → Bool) (vs : Nat → Value) (a : Act) : Prop where
  size : a.tmps.size = a0.tmps.size
  defers : a.defers = a0.defers
  own : ∀ (j : Nat) (o : Oper) (d : Nat), ops[j]? = some o → o.dst = some d → L j = true → a.tmps.getD d undef = vs j
  other : ∀ s : Nat, (∀ (j : Nat) (o : Oper), ops[j]? = some o → L j = true → o.dst ≠ some s) → a.tmps.getD s undef = a0.tmps.getD s undef
/-- Each has a slot of its own, and waits only for ones ahead of it. -/
def okOps (ops : Array Oper) (nt : Nat) : Bool := (List.range ops.size).all fun i => match ops[i]? with
  | some o => o.after.all (fun e => decide (e.on < i)) && (match o.dst with | some d => decide (d < nt) && (List.range ops.size).all (fun j => j == i || (match ops[j]? with | some oj => !(oj.dst == some d) | none => true)) | none => true)
  | none => true
def lastWaits (md : Region.Mode) (ops : Array Oper) (n : Nat) : Bool := match ops[n]? with
  | some o => (List.range n).all (fun j => o.after.any (fun e => Region.binds md e && e.on == j))
  | none => false
theorem okOps_after {nt i : Nat} {o : Oper} (h : okOps ops nt = true) (ho : ops[i]? = some o) : ∀ e ∈ o.after, e.on < i := by
  have hi := (Array.getElem?_eq_some_iff.1 ho).1
  have h1 := List.all_eq_true.1 h i (List.mem_range.2 hi)
  simp only [ho, Bool.and_eq_true] at h1
  intro e he
  have := Array.all_eq_true_iff_forall_mem.1 h1.1 e he
  exact of_decide_eq_true this
theorem okOps_dst {nt i : Nat} {o : Oper} {d : Nat} (h : okOps ops nt = true) (ho : ops[i]? = some o) (hd : o.dst = some d) : d < nt ∧ ∀ (j : Nat) (oj : Oper), ops[j]? = some oj → oj.dst = some d → j = i := by
  have hi := (Array.getElem?_eq_some_iff.1 ho).1
  have h1 := List.all_eq_true.1 h i (List.mem_range.2 hi)
  simp only [ho, hd, Bool.and_eq_true, decide_eq_true_eq] at h1
  refine ⟨h1.2.1, fun j oj hj hjd => ?_⟩
  have hjs := (Array.getElem?_eq_some_iff.1 hj).1
  have h2 := List.all_eq_true.1 h1.2.2 j (List.mem_range.2 hjs)
  simp only [hj, hjd, Bool.or_eq_true, beq_iff_eq, beq_self_eq_true, Bool.not_true, Bool.false_eq_true, or_false] at h2
  exact h2
theorem getD_set {xs : Array Value} {d s : Nat} {v : Value} : (xs.setIfInBounds d v).getD s undef = if d = s ∧ d < xs.size then v else xs.getD s undef := by
  simp only [Array.getD_eq_getD_getElem?, Array.getElem?_setIfInBounds]
  by_cases h : d = s
  · subst h
    by_cases h2 : d < xs.size
    · simp [h2]
    · simp [h2]
  · simp [h]
theorem Done.put {a0 a : Act} {L : Nat → Bool} {vs : Nat → Value} {i : Nat} {o : Oper} {v : Value} (hok : okOps ops a0.tmps.size = true) (h : Done ops a0 L vs a) (ho : ops[i]? = some o) (hi : L i = false) :
    Done ops a0 (fun j => j == i || L j) (fun j => if j = i then v else vs j) (a.put o.dst v) := by
  cases hd : o.dst with
  | none =>
    refine ⟨h.size, h.defers, fun j oj d hj hjd hL => ?_, fun s hs => ?_⟩
    · have hne : j ≠ i := by rintro rfl; rw [ho] at hj; injection hj with hj; rw [← hj, hd] at hjd; cases hjd
      simp only [Act.put, if_neg hne]
      exact h.own j oj d hj hjd (by simpa [hne] using hL)
    · simp only [Act.put]
      exact h.other s (fun j oj hj hL => hs j oj hj (by simp [hL]))
  | some d0 =>
    obtain ⟨hlt, huniq⟩ := okOps_dst hok ho hd
    refine ⟨by simp [Act.put, h.size], h.defers, fun j oj d hj hjd hL => ?_, fun s hs => ?_⟩
    · simp only [Act.put, getD_set]
      by_cases hne : j = i
      · subst hne
        rw [ho] at hj; injection hj with hj
        rw [← hj, hd] at hjd
        injection hjd with hjd
        rw [if_pos rfl, if_pos ⟨hjd, by rw [h.size]; exact hlt⟩]
      · rw [if_neg hne, if_neg]
        · exact h.own j oj d hj hjd (by simpa [hne] using hL)
        · rintro ⟨rfl, _⟩
          exact hne (huniq j oj hj hjd)
    · simp only [Act.put, getD_set]
      rw [if_neg]
      · exact h.other s (fun j oj hj hL => hs j oj hj (by simp [hL]))
      · rintro ⟨rfl, _⟩
        exact hs i o ho (by simp) hd
theorem count_set (l : List Bool) (i : Nat) (h : l[i]? = some false) : (l.set i true).count false + 1 = l.count false := by
  induction l generalizing i with
  | nil => simp at h
  | cons b l ih =>
    cases i with
    | zero => simp at h; subst h; simp
    | succ i =>
      have := ih i (by simpa using h)
      rw [List.set_cons_succ]
      cases b <;> simp <;> omega
theorem ready_mem {listed : Array Bool} {i : Nat} (h : i ∈ Region.ready md ops listed) : i < ops.size ∧ listed.getD i true = false ∧ ∃ o, ops[i]? = some o ∧ ∀ e ∈ o.after, Region.binds md e = true → listed.getD e.on false = true := by
  unfold Region.ready at h
  obtain ⟨h1, h2⟩ := List.mem_filter.1 h
  simp only [Bool.and_eq_true, Bool.not_eq_true'] at h2
  refine ⟨List.mem_range.1 h1, h2.1, ?_⟩
  obtain ⟨o, ho⟩ : ∃ o, ops[i]? = some o := ⟨_, Array.getElem?_eq_getElem (List.mem_range.1 h1)⟩
  refine ⟨o, ho, fun e he hb => ?_⟩
  have h3 := h2.2
  rw [ho] at h3
  simp only [Option.map_some, Option.getD_some] at h3
  have := Array.all_eq_true_iff_forall_mem.1 h3 e he
  simpa [hb] using this
theorem ready_nil {nt : Nat} {listed : Array Bool} (hok : okOps ops nt = true) (hs : listed.size = ops.size) (h : Region.ready md ops listed = []) : ∀ i, i < ops.size → listed.getD i false = true := by
  intro i
  induction i using Nat.strongRecOn with
  | ind i ih =>
    intro hi
    apply Classical.byContradiction
    intro hf
    obtain ⟨o, ho⟩ : ∃ o, ops[i]? = some o := ⟨_, Array.getElem?_eq_getElem hi⟩
    have hmem : i ∈ Region.ready md ops listed := by
      unfold Region.ready
      refine List.mem_filter.2 ⟨List.mem_range.2 hi, ?_⟩
      simp only [Bool.and_eq_true, Bool.not_eq_true']
      refine ⟨?_, ?_⟩
      · have hil : i < listed.size := by omega
        rw [Array.getD_eq_getD_getElem?, Array.getElem?_eq_getElem hil] at hf ⊢
        simpa using hf
      · rw [ho]
        simp only [Option.map_some, Option.getD_some]
        refine Array.all_eq_true_iff_forall_mem.2 fun e he => ?_
        have h1 := okOps_after hok ho e he
        rw [ih e.on h1 (by omega)]
        simp
    rw [h] at hmem
    cases hmem
theorem wpAnyLast_inv (n : Nat) (hn : ops.size = n + 1) (l0 : Array Bool) (hl0n : l0.getD n false = false) (a0 : Act) (hok : okOps ops a0.tmps.size = true) (hlast : lastWaits md ops n = true) (hds : ds = [n])
    (Inv : (Nat → Bool) → World → (Nat → Value) → Prop) (hS : ∀ L w vs, Inv L w vs → S w)
    (step : ∀ (i : Nat) (o : Oper) (L : Nat → Bool) (vs : Nat → Value) (a : Act) (w : World), i < n → ops[i]? = some o → l0.getD i false = false → L i = false → (∀ j, L j = true → l0.getD j false = false) → (∀ e ∈ o.after, Region.binds md e = true → l0.getD e.on false = true ∨ L e.on = true) → Done ops a0 L vs a → Inv L w vs →
      wpOp P ops Q i (fun a' w' => ∃ v, a' = a.put o.dst v ∧ Inv (fun j => j == i || L j) w' (fun j => if j = i then v else vs j)) a w)
    (fin : ∀ (L : Nat → Bool) (vs : Nat → Value) (a : Act) (w : World), (∀ j, L j = (decide (j < n) && !l0.getD j false)) → Done ops a0 L vs a → Inv L w vs → wpOp P ops Q n (fun a w => Q .normal a w) a w) :
    ∀ (fuel : Nat) (listed : Array Bool) (L : Nat → Bool) (vs : Nat → Value) (a : Act) (w : World), listed.size = n + 1 → listed.getD n true = false → listed.toList.count false ≤ fuel → (∀ j, listed.getD j false = (l0.getD j false || L j)) → (∀ j, L j = true → l0.getD j false = false) → Done ops a0 L vs a → Inv L w vs → wpAnyLast P md ops Q S ds fuel listed a w := by
  intro fuel
  induction fuel with
  | zero =>
    intro listed L vs a w hs hln hc hlL hLl hD hI
    exfalso
    have hil : n < listed.size := by omega
    rw [Array.getD_eq_getD_getElem?, Array.getElem?_eq_getElem hil] at hln
    simp at hln
    have : false ∈ listed.toList := by rw [← hln]; simp
    have := List.count_pos_iff.2 this
    omega
  | succ fuel ih =>
    intro listed L vs a w hs hln hc hlL hLl hD hI
    have hil : n < listed.size := by omega
    have hln' : listed.getD n false = false := by
      rw [Array.getD_eq_getD_getElem?, Array.getElem?_eq_getElem hil] at hln ⊢
      simpa using hln
    refine ⟨fun hr => ?_, fun i hi => ?_⟩
    · have := ready_nil hok (by omega) hr n (by omega)
      rw [hln'] at this; cases this
    · obtain ⟨hin, hif, o, ho, hdeps⟩ := ready_mem hi
      have hif' : listed[i]? = some false := by
        have : i < listed.size := by omega
        rw [Array.getD_eq_getD_getElem?, Array.getElem?_eq_getElem this] at hif
        rw [Array.getElem?_eq_getElem this]
        simpa using hif
      have hLi : listed.getD i false = false := by rw [Array.getD_eq_getD_getElem?, hif']; rfl
      have hLi2 := hlL i
      rw [hLi] at hLi2
      have hLi3 := Bool.or_eq_false_iff.1 hLi2.symm
      have hset : ∀ j, (listed.setIfInBounds i true).getD j false = (j == i || listed.getD j false) := by
        intro j
        simp only [Array.getD_eq_getD_getElem?, Array.getElem?_setIfInBounds]
        by_cases h : i = j
        · subst h
          simp [show i < listed.size by omega]
        · rw [if_neg h]
          have : (j == i) = false := by simp; omega
          rw [this, Bool.false_or]
      have hdeps' : ∀ e ∈ o.after, Region.binds md e = true → l0.getD e.on false = true ∨ L e.on = true := fun e he hb => by
        have := hdeps e he hb
        rw [hlL] at this
        simpa using this
      by_cases hlt : i < n
      · refine wpOp_mono (fun a' w' => ?_) (step i o L vs a w hlt ho hLi3.1 hLi3.2 hLl hdeps' hD hI)
        rintro ⟨v, rfl, hI'⟩
        refine ⟨fun _ _ => hS _ _ _ hI', ?_⟩
        refine ih _ (fun j => j == i || L j) (fun j => if j = i then v else vs j) _ _ (by simp; omega) ?_ ?_ ?_ ?_ ?_ hI'
        · rw [Array.getD_eq_getD_getElem?, Array.getElem?_setIfInBounds, if_neg (by omega), ← Array.getD_eq_getD_getElem?]
          exact hln
        · have := count_set listed.toList i (by simpa using hif')
          rw [Array.toList_setIfInBounds]
          omega
        · intro j
          rw [hset, hlL]
          cases (j == i) <;> cases (l0.getD j false) <;> simp
        · intro j hj
          by_cases h : j = i
          · subst h; exact hLi3.1
          · exact hLl j (by simpa [h] using hj)
        · exact Done.put hok hD ho hLi3.2
      · obtain rfl : i = n := by omega
        have hall : ∀ j, j < i → listed.getD j false = true := by
          intro j hj
          unfold lastWaits at hlast
          rw [ho] at hlast
          have := List.all_eq_true.1 hlast j (List.mem_range.2 hj)
          obtain ⟨e, he, hb⟩ := Array.any_eq_true'.1 this
          simp only [Bool.and_eq_true, beq_iff_eq] at hb
          have := hdeps e he hb.1
          rwa [hb.2] at this
        have hLL : ∀ j, L j = (decide (j < i) && !l0.getD j false) := by
          intro j
          have h1 := hlL j
          by_cases hj : j < i
          · rw [hall j hj] at h1
            rw [decide_eq_true hj, Bool.true_and]
            cases h2 : l0.getD j false with
            | true =>
              cases h3 : L j with
              | true => rw [hLl j h3] at h2; cases h2
              | false => rfl
            | false => rw [h2] at h1; simpa using h1.symm
          · rw [decide_eq_false hj, Bool.false_and]
            cases h3 : L j with
            | false => rfl
            | true =>
              rw [h3, Bool.or_true] at h1
              by_cases hji : j = i
              · subst hji; rw [hln'] at h1; cases h1
              · rw [Array.getD_eq_getD_getElem?, Array.getElem?_eq_none (by omega)] at h1
                cases h1
        refine wpOp_mono (fun a' w' hq => ⟨fun hd => absurd (by rw [hds]; simp) hd, ?_⟩) (fin L vs a w hLL hD hI)
        refine wpAnyLast_done ?_ hq fuel
        unfold Region.ready
        refine List.filter_eq_nil_iff.2 fun j hj => ?_
        have hj' := List.mem_range.1 hj
        have h1 := hset j
        have hjl : j < (listed.setIfInBounds i true).size := by simp; omega
        have h2 : (listed.setIfInBounds i true).getD j false = true := by
          rw [h1]
          by_cases c : j = i
          · subst c; simp
          · rw [hall j (by omega)]; simp
        rw [Array.getD_eq_getD_getElem?, Array.getElem?_eq_getElem hjl] at h2 ⊢
        simp at h2
        simp [h2]
/-- The rule: from where the loads and the pure operations have been taken (l0). -/
theorem inv_ (n : Nat) {fuel : Nat} {l0 : Array Bool} {a0 : Act} {w0 : World} (hn : ops.size = n + 1) (hl : l0.size = n + 1) (hl0 : l0.getD n true = false) (hc : l0.toList.count false ≤ fuel) (hok : okOps ops a0.tmps.size = true) (hlast : lastWaits md ops n = true) (hds : ds = [n])
    (Inv : (Nat → Bool) → World → (Nat → Value) → Prop) (hS : ∀ L w vs, Inv L w vs → S w) (hI : Inv (fun _ => false) w0 (fun _ => undef))
    (step : ∀ (i : Nat) (o : Oper) (L : Nat → Bool) (vs : Nat → Value) (a : Act) (w : World), i < n → ops[i]? = some o → l0.getD i false = false → L i = false → (∀ j, L j = true → l0.getD j false = false) → (∀ e ∈ o.after, Region.binds md e = true → l0.getD e.on false = true ∨ L e.on = true) → Done ops a0 L vs a → Inv L w vs →
      wpOp P ops Q i (fun a' w' => ∃ v, a' = a.put o.dst v ∧ Inv (fun j => j == i || L j) w' (fun j => if j = i then v else vs j)) a w)
    (fin : ∀ (L : Nat → Bool) (vs : Nat → Value) (a : Act) (w : World), (∀ j, L j = (decide (j < n) && !l0.getD j false)) → Done ops a0 L vs a → Inv L w vs → wpOp P ops Q n (fun a w => Q .normal a w) a w) :
    wpAnyLast P md ops Q S ds fuel l0 a0 w0 := by
  have hil : n < l0.size := by omega
  have hln : l0.getD n false = false := by
    rw [Array.getD_eq_getD_getElem?, Array.getElem?_eq_getElem hil] at hl0 ⊢
    simpa using hl0
  exact wpAnyLast_inv n hn l0 hln a0 hok hlast hds Inv hS step fin fuel l0 (fun _ => false) (fun _ => undef) a0 w0 hl hl0 hc (fun j => by simp) (fun _ h => by cases h) ⟨rfl, rfl, fun j o d _ _ h => (by cases h), fun s _ => rfl⟩ hI
/-- A slot of what was taken first stays. -/
theorem Done.old {a0 a : Act} {L : Nat → Bool} {vs : Nat → Value} {l0 : Array Bool} (hok : okOps ops a0.tmps.size = true) (h : Done ops a0 L vs a) (hLl : ∀ j, L j = true → l0.getD j false = false) {j0 s : Nat} {o0 : Oper} (h0 : ops[j0]? = some o0) (hd : o0.dst = some s) (hj : l0.getD j0 false = true) :
    a.tmps.getD s undef = a0.tmps.getD s undef := by
  refine h.other s fun j o ho hL hs => ?_
  have e := (okOps_dst hok h0 hd).2 j o ho hs
  subst e
  rw [hLl j hL] at hj
  cases hj
/-- The act is told by what is done. -/
theorem Done.unique {a0 a a' : Act} {L : Nat → Bool} {vs : Nat → Value} (h : Done ops a0 L vs a) (h' : Done ops a0 L vs a') : a = a' := by
  have ht : a.tmps = a'.tmps := by
    refine Array.ext (h.size.trans h'.size.symm) fun s h1 h2 => ?_
    have key : a.tmps.getD s undef = a'.tmps.getD s undef := by
      by_cases c : ∃ (j : Nat) (o : Oper), ops[j]? = some o ∧ L j = true ∧ o.dst = some s
      · obtain ⟨j, o, c1, c2, c3⟩ := c
        rw [h.own j o s c1 c3 c2, h'.own j o s c1 c3 c2]
      · have c' : ∀ (j : Nat) (o : Oper), ops[j]? = some o → L j = true → o.dst ≠ some s := fun j o c1 c2 c3 => c ⟨j, o, c1, c2, c3⟩
        rw [h.other s c', h'.other s c']
    rw [Array.getD_eq_getD_getElem?, Array.getElem?_eq_getElem h1, Array.getD_eq_getD_getElem?, Array.getElem?_eq_getElem h2] at key
    simpa using key
  have hd : a.defers = a'.defers := h.defers.trans h'.defers.symm
  cases a
  cases a'
  simp only at ht hd
  rw [ht, hd]
/-- The act with what these operations have given. -/
def puts (ops : Array Oper) (vs : Nat → Value) : List Nat → Act → Act
  | [], a => a
  | i :: is, a => puts ops vs is (a.put (ops[i]?.bind fun o => o.dst) (vs i))
theorem Done.puts {a0 : Act} {vs : Nat → Value} (hok : okOps ops a0.tmps.size = true) : ∀ (is : List Nat) (L : Nat → Bool) (a : Act), Done ops a0 L vs a → (∀ i ∈ is, L i = false ∧ i < ops.size) → is.Nodup → Done ops a0 (fun j => L j || is.contains j) vs (Hand.puts ops vs is a)
  | [], L, a, h, _, _ => by simpa [Hand.puts] using h
  | i :: is, L, a, h, hL, hn => by
    obtain ⟨h1, h2⟩ := hL i (by simp)
    obtain ⟨hni, hn'⟩ := List.nodup_cons.1 hn
    have ho : ops[i]? = some ops[i] := Array.getElem?_eq_getElem h2
    have hp := Done.put (v := vs i) hok h ho h1
    have e : (fun j => if j = i then vs i else vs j) = vs := by
      funext j
      by_cases c : j = i
      · rw [if_pos c, c]
      · rw [if_neg c]
    rw [e] at hp
    have := Done.puts hok is (fun j => j == i || L j) _ hp (fun j hj => ⟨by
      have : j ≠ i := fun c => hni (c ▸ hj)
      simp [this, (hL j (List.mem_cons_of_mem _ hj)).1], (hL j (List.mem_cons_of_mem _ hj)).2⟩) hn'
    have e2 : (fun j => (j == i || L j) || is.contains j) = (fun j => L j || (i :: is).contains j) := by
      funext j
      rw [List.contains_cons]
      cases (j == i) <;> cases (L j) <;> simp
    rw [e2] at this
    simpa [Hand.puts, ho] using this
theorem Done.eq {a0 a : Act} {L : Nat → Bool} {vs : Nat → Value} (hok : okOps ops a0.tmps.size = true) (h : Done ops a0 L vs a) (is : List Nat) (hL : ∀ j, L j = is.contains j) (hn : is.Nodup) (hlt : ∀ i ∈ is, i < ops.size) : a = Hand.puts ops vs is a0 := by
  have h0 : Done ops a0 (fun _ => false) vs a0 := ⟨rfl, rfl, fun j o d _ _ h => (by cases h), fun s _ => rfl⟩
  have := Done.puts hok is (fun _ => false) a0 h0 (fun i hi => ⟨rfl, hlt i hi⟩) hn
  have e : (fun j => false || is.contains j) = L := by funext j; rw [Bool.false_or, hL]
  rw [e] at this
  exact h.unique this
end
end Go.Proofs.Ytjlnjlnecipllaa.Hand
