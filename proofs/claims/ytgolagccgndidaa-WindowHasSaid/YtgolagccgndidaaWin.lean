/- Plain lemmas on windows: what the printed functions of layer 7 and of its reference come to. No program in sight. -/
import Derived.Test.YtgolagccgndidaaPAllx1
import Derived.Test.YtgolagccgndidaaPAllx2
namespace Go.Proofs.Ytgolagccgndidaa.Pure
open Go.RowKit Go.Proofs.Ytgolagccgndidaa.PAll Go.Proofs.YtgolagccgndidaaW.PrintWords Go.Proofs.YtgolagccgndidaaW.PrintLast Go.Proofs.YtgolagccgndidaaW.PrintMore
set_option linter.unusedVariables false
set_option linter.unusedSimpArgs false

theorem w_id {x : Int} (h : -9223372036854775808 ≤ x) (h' : x ≤ 9223372036854775807) : wrap64 x = x := by unfold wrap64; omega
theorem ev_pos {α : Type} {c : Prop} [Decidable c] {g f : Nat → Option α} {r : α} (h : c) (k : Ev g r) : Ev (fun n => if c then g n else f n) r := Ev.congr (fun _ => if_pos h) k
theorem ev_neg {α : Type} {c : Prop} [Decidable c] {g f : Nat → Option α} {r : α} (h : ¬ c) (k : Ev f r) : Ev (fun n => if c then g n else f n) r := Ev.congr (fun _ => if_neg h) k
theorem ev_some {α : Type} {r q : α} (h : q = r) : Ev (fun _ => some q) r := h ▸ Ev.now q
theorem ev_bind {α β : Type} {g : Option α} {f : Nat → α → Option β} {a : α} {r : β} (h : g = some a) (k : Ev (fun n => f n a) r) : Ev (fun n => g.bind (f n)) r := Ev.bind (g := fun _ => g) ⟨0, fun _ _ => h⟩ k

/-- lo, lo + 1, .. -/
def iota : Int → Nat → List Int
  | _, 0 => []
  | lo, n + 1 => lo :: iota (lo + 1) n
theorem iota_length (lo : Int) (n : Nat) : (iota lo n).length = n := by
  induction n generalizing lo with
  | zero => rfl
  | succ n ih => simp [iota, ih]
theorem iota_snoc (lo : Int) (n : Nat) : iota lo (n + 1) = iota lo n ++ [lo + n] := by
  induction n generalizing lo with
  | zero => simp [iota]
  | succ n ih => rw [iota, ih (lo + 1)]; simp only [iota, List.cons_append, List.cons.injEq, true_and]; congr 2; omega
theorem iota_getD (lo : Int) (n i : Nat) (d : Int) (h : i < n) : (iota lo n).getD i d = lo + i := by
  induction n generalizing lo i with
  | zero => omega
  | succ n ih =>
    cases i with
    | zero => simp [iota]
    | succ i => rw [iota, List.getD_cons_succ, ih (lo + 1) i (by omega)]; omega
theorem rd_iota (lo : Int) (n : Nat) (i : Int) (h0 : 0 ≤ i) (h : i < n) : rd (iota lo n) i = lo + i := by
  unfold rd; rw [iota_getD _ _ _ _ (by omega)]; omega

/-- The windows of a and b may be. -/
def May (a b : Int) : Prop := 1 ≤ a ∧ a ≤ 20 ∧ 1 ≤ b ∧ b ≤ a
instance (a b : Int) : Decidable (May a b) := by unfold May; infer_instance
def firstS (b k : Int) : Int := if 1 ≤ b ∧ b ≤ 20 ∧ 0 ≤ k ∧ k ≤ 1048576 then b * k else -1
def lastS (a b k : Int) : Int := if May a b ∧ 0 ≤ k ∧ k ≤ 1048576 then b * k + a - 1 else -1

theorem within_s (x l m : Int) : window_within.f x l m = some (decide (l ≤ x ∧ x ≤ m)) := by
  unfold window_within.f
  by_cases h : l ≤ x
  · rw [if_pos h]; simp [h]
  · rw [if_neg h]; simp only [Option.some.injEq]; exact (decide_eq_false (by omega)).symm
theorem may_s (a b : Int) : window_May.f a b = some (decide (May a b)) := by
  unfold window_May.f
  rw [within_s, within_s]
  simp only [Option.bind_some, decide_eq_true_eq]
  by_cases h : 1 ≤ a ∧ a ≤ 20
  · rw [if_pos h]; simp only [Option.some.injEq]; rw [Bool.eq_iff_iff]; simp only [decide_eq_true_eq]; unfold May; omega
  · rw [if_neg h]; simp only [Option.some.injEq]; exact (decide_eq_false (by unfold May; omega)).symm
theorem rmay_s (a b : Int) : meanderref07_May.f a b = some (decide (May a b)) := by
  unfold meanderref07_May.f
  repeat' split
  all_goals simp only [Option.some.injEq]
  all_goals rw [Bool.eq_iff_iff]; simp only [decide_eq_true_eq, Bool.false_eq_true, false_iff]; unfold May; omega
theorem mul_bd {b k : Int} (h1 : 1 ≤ b) (h2 : b ≤ 20) (h3 : 0 ≤ k) (h4 : k ≤ 1048576) : 0 ≤ b * k ∧ b * k ≤ 20971520 := by
  have := Int.mul_nonneg (show 0 ≤ b by omega) h3
  have h5 : b * k ≤ 20 * k := Int.mul_le_mul_of_nonneg_right h2 h3
  omega
theorem first_s (b k : Int) : window_First.f b k = some (firstS b k) := by
  unfold window_First.f firstS
  rw [within_s, within_s]
  simp only [Option.bind_some, decide_eq_true_eq]
  by_cases h : 1 ≤ b ∧ b ≤ 20
  · rw [if_pos h]
    by_cases h' : 0 ≤ k ∧ k ≤ 1048576
    · have := mul_bd h.1 h.2 h'.1 h'.2
      rw [if_pos h', if_pos (by omega), w_id (by omega) (by omega)]
    · rw [if_neg h', if_neg (by omega)]
  · rw [if_neg h, if_neg (by omega)]
theorem rfirst_s (b k : Int) : meanderref07_First.f b k = some (firstS b k) := by
  unfold meanderref07_First.f firstS
  by_cases h : 1 ≤ b ∧ b ≤ 20 ∧ 0 ≤ k ∧ k ≤ 1048576
  · have := mul_bd h.1 h.2.1 h.2.2.1 h.2.2.2
    rw [if_neg (by omega), if_neg (by omega), if_neg (by omega), if_neg (by omega), if_pos h, w_id (by omega) (by omega)]
  · rw [if_neg h]
    repeat' split
    all_goals first | rfl | omega
theorem last_s (a b k : Int) (ha : -9223372036854775808 ≤ a) (ha' : a ≤ 9223372036854775807) : window_Last.f a b k = some (lastS a b k) := by
  unfold window_Last.f
  rw [first_s, may_s]
  simp only [Option.bind_some, decide_eq_true_eq]
  unfold firstS lastS
  by_cases hm : May a b
  · obtain ⟨h1, h2, h3, h4⟩ := id hm
    rw [if_pos hm]
    by_cases hk : 0 ≤ k ∧ k ≤ 1048576
    · have := mul_bd h3 (by omega) hk.1 hk.2
      rw [if_pos (show 1 ≤ b ∧ b ≤ 20 ∧ 0 ≤ k ∧ k ≤ 1048576 by omega), if_neg (by omega), if_pos ⟨hm, hk⟩, w_id (x := b * k + a) (by omega) (by omega), w_id (by omega) (by omega)]
    · rw [if_neg (show ¬ (1 ≤ b ∧ b ≤ 20 ∧ 0 ≤ k ∧ k ≤ 1048576) by omega), if_pos (by omega), if_neg (fun h => hk h.2)]
  · rw [if_neg hm, if_neg (fun h => hm h.1)]
theorem rlast_s (a b k : Int) : meanderref07_Last.f a b k = some (lastS a b k) := by
  unfold meanderref07_Last.f lastS
  rw [rmay_s]
  simp only [Option.bind_some, decide_eq_true_eq]
  by_cases hm : May a b
  · obtain ⟨h1, h2, h3, h4⟩ := id hm
    rw [if_pos hm]
    by_cases hk : 0 ≤ k ∧ k ≤ 1048576
    · have := mul_bd h3 (by omega) hk.1 hk.2
      rw [if_neg (by omega), if_neg (by omega), if_pos ⟨hm, hk⟩, w_id (x := b * k) (by omega) (by omega), w_id (x := b * k + a) (by omega) (by omega), w_id (by omega) (by omega)]
    · rw [if_neg (c := May a b ∧ 0 ≤ k ∧ k ≤ 1048576) (fun h => hk h.2)]
      by_cases h0 : k < 0
      · rw [if_pos h0]
      · rw [if_neg h0, if_pos (by omega)]
  · rw [if_neg hm, if_neg (fun h => hm h.1)]
theorem lastS_in {a b k : Int} (hm : May a b) (h0 : 0 ≤ k) (h1 : k ≤ 1048576) : lastS a b k = b * k + a - 1 := if_pos ⟨hm, h0, h1⟩

/-! The least window that has the epoch. -/
def lowS (a b e : Int) : Int := if e < a then 0 else (e - a) / b + 1
theorem b_cases {b : Int} (h : 1 ≤ b) (h' : b ≤ 20) : b = 1 ∨ b = 2 ∨ b = 3 ∨ b = 4 ∨ b = 5 ∨ b = 6 ∨ b = 7 ∨ b = 8 ∨ b = 9 ∨ b = 10 ∨ b = 11 ∨ b = 12 ∨ b = 13 ∨ b = 14 ∨ b = 15 ∨ b = 16 ∨ b = 17 ∨ b = 18 ∨ b = 19 ∨ b = 20 := by omega
theorem low_facts {a b e : Int} (hm : May a b) (h0 : 0 ≤ e) :
    0 ≤ lowS a b e ∧ lowS a b e ≤ e / b ∧ e / b ≤ e ∧ 0 ≤ e / b ∧ e / b - lowS a b e < 20 ∧ e / b - a - 1 ≤ lowS a b e ∧ (lowS a b e = 0 ∨ b * (lowS a b e - 1) + a - 1 < e) := by
  obtain ⟨h1, h2, h3, h4⟩ := hm
  unfold lowS
  split
  all_goals rcases b_cases h3 (by omega) with h | h | h | h | h | h | h | h | h | h | h | h | h | h | h | h | h | h | h | h
  all_goals subst h
  all_goals omega
theorem has_iff {a b e k : Int} (hm : May a b) (h0 : 0 ≤ e) (hk : 0 ≤ k) : (b * k ≤ e ∧ e ≤ b * k + a - 1) ↔ (lowS a b e ≤ k ∧ k ≤ e / b) := by
  obtain ⟨h1, h2, h3, h4⟩ := hm
  unfold lowS
  split
  all_goals rcases b_cases h3 (by omega) with h | h | h | h | h | h | h | h | h | h | h | h | h | h | h | h | h | h | h | h
  all_goals subst h
  all_goals omega
/-- How many windows have the epoch. -/
def manyS (a b e : Int) : Nat := (e / b - lowS a b e + 1).toNat
def Ok (a b e : Int) : Prop := May a b ∧ 0 ≤ e ∧ e ≤ 1048576
instance (a b e : Int) : Decidable (Ok a b e) := by unfold Ok; infer_instance
def ofS (a b e : Int) : List Int := if Ok a b e then iota (lowS a b e) (manyS a b e) else []

theorem of_l0 {a b e : Int} (hok : Ok a b e) (m : Nat) : ∀ i : Int, 0 ≤ i → e / b - lowS a b e + 1 - i = m →
    Ev (fun k => window_Of.l0 k a b e (iota (e / b - i + 1) i.toNat) (e / b) (e / b + 1) i) (ofS a b e) := by
  obtain ⟨hm, h0, h1⟩ := id hok
  obtain ⟨f1, f2, f3, f4, f5, f6, f7⟩ := low_facts hm h0
  have hab := id hm; unfold May at hab
  induction m with
  | zero =>
    intro i hi hd
    refine Ev.step (fun k => window_Of.l0.eq_2 _ _ _ _ _ _ _ k) ?_
    have hr : iota (e / b - i + 1) i.toNat = ofS a b e := by
      unfold ofS manyS; rw [if_pos hok]; congr 1 <;> omega
    by_cases hl : i < e / b + 1
    · refine ev_pos hl ?_
      rw [w_id (by omega) (by omega)]
      refine ev_bind (last_s _ _ _ (by omega) (by omega)) ?_
      have hk : e / b - i = lowS a b e - 1 := by omega
      rw [lastS_in hm (by omega) (by omega)]
      exact ev_pos (by rw [hk]; omega) (ev_some hr)
    · exact ev_neg hl (ev_some hr)
  | succ m ih =>
    intro i hi hd
    refine Ev.step (fun k => window_Of.l0.eq_2 _ _ _ _ _ _ _ k) ?_
    refine ev_pos (by omega) ?_
    rw [w_id (by omega) (by omega)]
    refine ev_bind (last_s _ _ _ (by omega) (by omega)) ?_
    have hh := (has_iff hm h0 (k := e / b - i) (by omega)).2 (by omega)
    rw [lastS_in hm (by omega) (by omega)]
    refine ev_neg (by omega) ?_
    refine ev_bind rfl ?_
    refine ev_pos (by rw [iota_length]; simp; omega) ?_
    rw [w_id (by omega) (by omega)]
    have := ih (i + 1) (by omega) (by omega)
    have hl : [e / b - i] ++ iota (e / b - i + 1) i.toNat = iota (e / b - (i + 1) + 1) (i + 1).toNat := by
      rw [show (i + 1).toNat = i.toNat + 1 by omega, iota, show e / b - (i + 1) + 1 = e / b - i by omega]; rfl
    rw [hl]; exact this
theorem of_s (a b e : Int) : Ev (fun k => window_Of.f k a b e) (ofS a b e) := by
  unfold window_Of.f
  refine ev_bind (may_s _ _) ?_
  have hno : ∀ (h : ¬ Ok a b e), Ev (fun k => window_Of.j0 k a b e true) (ofS a b e) := fun h =>
    Ev.step (fun k => window_Of.j0.eq_2 _ _ _ _ k) (ev_pos rfl (ev_some (by unfold ofS; rw [if_neg h])))
  by_cases hm : May a b
  · refine ev_pos (by simpa using hm) ?_
    refine ev_bind (within_s _ _ _) ?_
    by_cases he : 0 ≤ e ∧ e ≤ 1048576
    · have hok : Ok a b e := ⟨hm, he⟩
      obtain ⟨f1, f2, f3, f4, f5, f6, f7⟩ := low_facts hm he.1
      have hab := id hm; unfold May at hab
      refine Ev.step (fun k => window_Of.j0.eq_2 _ _ _ _ k) (ev_neg (by simp [he]) (ev_neg (by omega) ?_))
      rw [Int.tdiv_eq_ediv_of_nonneg he.1, w_id (by omega) (by omega), w_id (by omega) (by omega)]
      have := of_l0 hok (e / b - lowS a b e + 1).toNat 0 (by omega) (by omega)
      exact this
    · have : (!decide (0 ≤ e ∧ e ≤ 1048576)) = true := by simp; omega
      rw [this]; exact hno (fun h => he h.2)
  · exact ev_neg (by simpa using hm) (hno (fun h => hm h.1))

/-! The reference's Of. -/
theorem rof_l0 {a b e : Int} (hok : Ok a b e) (m : Nat) : ∀ (k : Int) (n : Nat), e / b - a - 1 ≤ k → 0 ≤ k → e / b + 1 - k = m → (k ≤ lowS a b e → n = 0) → (lowS a b e ≤ k → (n : Int) = k - lowS a b e) →
    Ev (fun r => meanderref07_Of.l0 r a b e (iota (lowS a b e) n) k) (ofS a b e) := by
  obtain ⟨hm, h0, h1⟩ := id hok
  obtain ⟨f1, f2, f3, f4, f5, f6, f7⟩ := low_facts hm h0
  have hab := id hm; unfold May at hab
  induction m with
  | zero =>
    intro k n hk hk0 hd hn hn'
    refine Ev.step (fun r => meanderref07_Of.l0.eq_2 _ _ _ _ _ r) (ev_neg (by omega) (ev_neg ?_ (ev_some ?_)))
    · rw [Int.tdiv_eq_ediv_of_nonneg h0, w_id (by omega) (by omega)]; omega
    · unfold ofS manyS; rw [if_pos hok]; congr 1; have := hn' (by omega); omega
  | succ m ih =>
    intro k n hk hk0 hd hn hn'
    refine Ev.step (fun r => meanderref07_Of.l0.eq_2 _ _ _ _ _ r) (ev_neg (by omega) (ev_pos ?_ ?_))
    · rw [Int.tdiv_eq_ediv_of_nonneg h0, w_id (by omega) (by omega)]; omega
    refine ev_bind (rfirst_s _ _) ?_
    have hf : firstS b k = b * k := if_pos (by omega)
    have hh := has_iff hm h0 hk0
    rw [hf, w_id (x := k + 1) (by omega) (by omega)]
    by_cases hl : lowS a b e ≤ k
    · have h2 := hh.2 ⟨hl, by omega⟩
      refine ev_pos h2.1 (ev_bind (rlast_s _ _ _) ?_)
      rw [lastS_in hm hk0 (by omega)]
      refine ev_pos h2.2 (ev_pos (by rw [iota_length]; have := hn' hl; omega) ?_)
      have hs : iota (lowS a b e) n ++ [k] = iota (lowS a b e) (n + 1) := by
        rw [iota_snoc]; congr 2; have := hn' hl; omega
      rw [hs]
      exact ih (k + 1) (n + 1) (by omega) (by omega) (by omega) (by omega) (fun _ => by have := hn' hl; omega)
    · have hn0 := hn (by omega)
      have hr := ih (k + 1) n (by omega) (by omega) (by omega) (fun _ => hn0) (fun h => by omega)
      by_cases hk2 : b * k ≤ e
      · refine ev_pos hk2 (ev_bind (rlast_s _ _ _) ?_)
        rw [lastS_in hm hk0 (by omega)]
        exact ev_neg (fun h => by have := hh.1 ⟨hk2, h⟩; omega) hr
      · exact ev_neg hk2 hr
theorem rof_s (a b e : Int) : Ev (fun k => meanderref07_Of.f k a b e) (ofS a b e) := by
  unfold meanderref07_Of.f
  refine ev_bind rfl ?_
  refine ev_bind (rmay_s _ _) ?_
  have hno : ∀ (h : ¬ Ok a b e), Ev (fun k => meanderref07_Of.j0 k a b e [] true) (ofS a b e) := fun h =>
    Ev.step (fun k => meanderref07_Of.j0.eq_2 _ _ _ _ _ k) (ev_pos rfl (ev_some (by unfold ofS; rw [if_neg h])))
  by_cases hm : May a b
  · refine ev_pos (by simpa using hm) ?_
    by_cases he : e < 0
    · exact ev_pos he (hno (fun h => by have := h.2; omega))
    · refine ev_neg he ?_
      by_cases he2 : e > 1048576
      · rw [decide_eq_true he2]; exact hno (fun h => by have := h.2; omega)
      · have hok : Ok a b e := ⟨hm, by omega, by omega⟩
        obtain ⟨f1, f2, f3, f4, f5, f6, f7⟩ := low_facts hm hok.2.1
        have hab := id hm; unfold May at hab
        refine Ev.step (fun k => meanderref07_Of.j0.eq_2 _ _ _ _ _ k) (ev_neg (by simpa using he2) (ev_neg (by omega) ?_))
        rw [Int.tdiv_eq_ediv_of_nonneg hok.2.1, w_id (x := e / b) (by omega) (by omega), w_id (x := e / b - a) (by omega) (by omega), w_id (x := e / b - a - 1) (by omega) (by omega)]
        have := rof_l0 hok (e / b + 1 - mx 0 (e / b - a - 1)).toNat (mx 0 (e / b - a - 1)) 0 (by unfold mx; split <;> omega) (by unfold mx; split <;> omega) (by unfold mx; split <;> omega) (fun _ => rfl) (fun h => by revert h; unfold mx; split <;> omega)
        exact this
  · exact ev_neg (by simpa using hm) (hno (fun h => hm h.1))

/-! Two rows that are one. -/
theorem numbers_l0 (xs : List Int) (hx : xs.length < 1000) (m : Nat) : ∀ i : Int, 0 ≤ i → (xs.length : Int) - i = m → Ev (fun k => meanderref05_Numbers.l0 k xs xs i) true := by
  induction m with
  | zero => intro i h0 hd; exact Ev.step (fun k => meanderref05_Numbers.l0.eq_2 _ _ _ k) (ev_neg (by omega) (ev_some rfl))
  | succ m ih =>
    intro i h0 hd
    refine Ev.step (fun k => meanderref05_Numbers.l0.eq_2 _ _ _ k) (ev_pos (by omega) (ev_pos h0 (ev_pos (by omega) (ev_pos rfl ?_))))
    rw [w_id (by omega) (by omega)]; exact ih (i + 1) (by omega) (by omega)
theorem numbers_s (xs : List Int) (hx : xs.length < 1000) : Ev (fun k => meanderref05_Numbers.f k xs xs) true := by
  unfold meanderref05_Numbers.f
  exact ev_pos rfl (numbers_l0 xs hx xs.length 0 (by omega) (by omega))

/-! Ends. -/
def endsS (a b e : Int) : List Int := (ofS a b e).map (lastS a b)
theorem of_length (a b e : Int) : (ofS a b e).length < 1000 := by
  unfold ofS
  split
  · next h =>
    obtain ⟨f1, f2, f3, f4, f5, f6, f7⟩ := low_facts h.1 h.2.1
    rw [iota_length]; unfold manyS; omega
  · simp
theorem ends_length (a b e : Int) : (endsS a b e).length < 1000 := by unfold endsS; rw [List.length_map]; exact of_length a b e
theorem ends_l0 {a b : Int} (ha : -9223372036854775808 ≤ a) (ha' : a ≤ 9223372036854775807) (xs : List Int) (hx : xs.length < 1000) (m : Nat) : ∀ i : Nat, xs.length - i = m → i ≤ xs.length →
    Ev (fun k => window_Ends.l0 k a b ((xs.map (lastS a b)).take i ++ xs.drop i) i) (xs.map (lastS a b)) := by
  induction m with
  | zero =>
    intro i hd hi
    obtain rfl : i = xs.length := by omega
    refine Ev.step (fun k => window_Ends.l0.eq_2 _ _ _ _ k) (ev_neg (by simp) (ev_some ?_))
    rw [List.take_of_length_le (by simp), List.drop_of_length_le (Nat.le_refl _)]; simp
  | succ m ih =>
    intro i hd hi
    have hl : ((xs.map (lastS a b)).take i ++ xs.drop i).length = xs.length := by simp; omega
    have hlt : i < xs.length := by omega
    refine Ev.step (fun k => window_Ends.l0.eq_2 _ _ _ _ k) (ev_pos (by rw [hl]; omega) (ev_pos (by omega) (ev_bind (last_s _ _ _ ha ha') ?_)))
    rw [w_id (by omega) (by omega)]
    have hr : rd ((xs.map (lastS a b)).take i ++ xs.drop i) (i : Int) = xs[i] := by
      unfold rd
      rw [List.getD_eq_getElem?_getD, List.getElem?_append_right (by simp; omega)]
      simp only [Int.toNat_natCast, List.length_take, List.length_map]
      rw [Nat.min_eq_left (by omega), Nat.sub_self, List.getElem?_drop]
      simp [List.getElem?_eq_getElem hlt]
    have hs : ((xs.map (lastS a b)).take i ++ xs.drop i).set (i : Int).toNat (lastS a b xs[i]) = (xs.map (lastS a b)).take (i + 1) ++ xs.drop (i + 1) := by
      rw [Int.toNat_natCast, List.set_append_right _ _ (by simp; omega)]
      simp only [List.length_take, List.length_map]
      rw [Nat.min_eq_left (by omega), Nat.sub_self, List.drop_eq_getElem_cons hlt, List.set_cons_zero, List.take_succ_eq_append_getElem (by simpa using hlt)]
      simp
    rw [hr, hs]
    exact ih (i + 1) (by omega) (by omega)
theorem ends_s (a b e : Int) (ha : -9223372036854775808 ≤ a) (ha' : a ≤ 9223372036854775807) : Ev (fun k => window_Ends.f k a b e) (endsS a b e) := by
  unfold window_Ends.f
  refine Ev.bind (of_s a b e) ?_
  exact ends_l0 ha ha' (ofS a b e) (of_length a b e) _ 0 rfl (by omega)
theorem rends_l0 {a b : Int} (xs : List Int) (hx : xs.length < 1000) (m : Nat) : ∀ i : Nat, xs.length - i = m → i ≤ xs.length →
    Ev (fun k => meanderref07_Ends.l0 k a b xs ((xs.map (lastS a b)).take i) i) (xs.map (lastS a b)) := by
  induction m with
  | zero =>
    intro i hd hi
    obtain rfl : i = xs.length := by omega
    refine Ev.step (fun k => meanderref07_Ends.l0.eq_2 _ _ _ _ _ k) (ev_neg (by omega) (ev_some ?_))
    rw [List.take_of_length_le (by simp)]
  | succ m ih =>
    intro i hd hi
    have hlt : i < xs.length := by omega
    refine Ev.step (fun k => meanderref07_Ends.l0.eq_2 _ _ _ _ _ k) (ev_pos (by omega) (ev_pos (by omega) (ev_bind (rlast_s _ _ _) (ev_pos (by simp; omega) ?_))))
    rw [w_id (by omega) (by omega)]
    have hr : rd xs (i : Int) = xs[i] := by
      unfold rd; rw [List.getD_eq_getElem?_getD]; simp [List.getElem?_eq_getElem hlt]
    have hs : (xs.map (lastS a b)).take i ++ [lastS a b xs[i]] = (xs.map (lastS a b)).take (i + 1) := by
      rw [List.take_succ_eq_append_getElem (by simpa using hlt)]; simp
    rw [hr, hs]
    exact ih (i + 1) (by omega) (by omega)
theorem rends_s (a b e : Int) : Ev (fun k => meanderref07_Ends.f k a b e) (endsS a b e) := by
  unfold meanderref07_Ends.f
  refine Ev.bind (rof_s a b e) ?_
  exact rends_l0 (ofS a b e) (of_length a b e) _ 0 rfl (by omega)

theorem shown_s : Ev (fun k => meanderlaw07_shown.f k) true := by
  unfold meanderlaw07_shown.f
  refine Ev.bind (of_s 4 2 5) (Ev.bind (ends_s 4 2 5 (by omega) (by omega)) (Ev.bind (of_s 3 3 5) ?_))
  exact ev_some (by decide)
theorem bd {x : Int} (h : (Lit.int .i64 x).wf = true) : -9223372036854775808 ≤ x ∧ x ≤ 9223372036854775807 := by
  simp only [Lit.wf, IntKind.min, IntKind.max, IntKind.signed, IntKind.bits, Bool.and_eq_true, decide_eq_true_eq, if_true] at h
  omega
end Go.Proofs.Ytgolagccgndidaa.Pure
