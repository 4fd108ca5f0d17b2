-- Laid by hprint.py of this repo: the kit's printer, and contracts by hand beside it. Not trusted: Lean checks it.
import Derived.Test.YtjlnjlnecipllaaPAllx0
import Derived.Test.YtjlnjlnecipllaaPAllx2
import Derived.Test.YtjlnjlnecipllaaPAllx3
import Derived.Test.YtjlnjlnecipllaaPAllx4
import Derived.Test.YtjlnjlnecipllaaPAllx5
namespace Go.Proofs.Ytjlnjlnecipllaa.PAll
open Go.RowKit Go.Proofs.YtjlnjlnecipllaaW.PrintWords Go.Proofs.YtjlnjlnecipllaaW.PrintLast Go.Proofs.YtjlnjlnecipllaaW.PrintMore
attribute [local go_sem] max2_int min2_int max_two min_two max_three min_three max_four min_four   -- for this text's walks alone
set_option linter.unusedVariables false
set_option linter.unusedSimpArgs false

/-! ### valid_Graph: function 13 -/
def valid_Graph.n0 : Nat → List (S23) → Int → Option Bool
  | 0, _, _ => none
  | k + 1, ns, i => if i < (ns.length : Int) then (if 0 ≤ i then (valid_Node.f k (rd_T23 ns i).f0 (rd_T23 ns i).f1 (rd_T23 ns i).f2 (rd_T23 ns i).f3).bind fun b => (if b = true then valid_Graph.n0 k ns (wrap64 (i + 1)) else some false) else none) else some true
def valid_Graph.bad1 (k : Nat) (ns : List (S23)) (es : List (S36)) (e : S36) : Option Bool :=
  if e.f2 = -1 then some true else (graph_Is.f k ns es e.f0 (-1)).bind fun b => (if b = true then (graph_Is.f k ns es e.f1 e.f2).bind fun c => some (!c) else some true)
def valid_Graph.bad2 (ns : List (S23)) (e : S36) : Option Bool :=
  if 0 ≤ e.f0 ∧ e.f0 < (ns.length : Int) ∧ 0 ≤ e.f1 ∧ e.f1 < (ns.length : Int) then (graph_InDepth.f (rd_T23 ns e.f1).f0 (rd_T23 ns e.f1).f1 (rd_T23 ns e.f1).f2 (rd_T23 ns e.f1).f3).bind fun d => some ((rd_T23 ns e.f0).f3 != d) else none
def valid_Graph.bad3 (p : List Int) : Option Bool := some ((p.length : Int) != 1)
def valid_Graph.bad4 (ns : List (S23)) (n : S23) (p : List Int) : Option Bool :=
  if n.f0 = 6 ∨ n.f0 = 7 then (if 0 < p.length ∧ 0 ≤ rd p 0 ∧ rd p 0 < (ns.length : Int) then some ((rd_T23 ns (rd p 0)).f0 != 5) else none) else some false
def valid_Graph.e1 : Nat → List (S23) → List (S36) → Int → Option Bool
  | 0, _, _, _ => none
  | k + 1, ns, es, i => if i < (es.length : Int) then (if 0 ≤ i then (valid_Graph.bad1 k ns es (rd_T36 es i)).bind fun b => (if b = true then some true else valid_Graph.e1 k ns es (wrap64 (i + 1))) else none) else some false
def valid_Graph.e2 : Nat → List (S23) → List (S36) → Int → Option Bool
  | 0, _, _, _ => none
  | k + 1, ns, es, i => if i < (es.length : Int) then (if 0 ≤ i then (valid_Graph.bad2 ns (rd_T36 es i)).bind fun b => (if b = true then some true else valid_Graph.e2 k ns es (wrap64 (i + 1))) else none) else some false
def valid_Graph.p3 : Nat → List (S23) → List (S36) → List (S47) → Int → Option Bool
  | 0, _, _, _, _ => none
  | k + 1, ns, es, xs, i => if i < (xs.length : Int) then (if 0 ≤ i then (if (rd_T47 xs i).f1 = -1 then valid_Graph.p3 k ns es xs (wrap64 (i + 1)) else if 0 ≤ (rd_T47 xs i).f0 ∧ (rd_T47 xs i).f0 < (ns.length : Int) then ((graph_Prev.f k ns es (rd_T47 xs i).f0 (rd_T47 xs i).f1).bind fun p => (valid_Graph.bad3 p).bind fun b => (if b = true then some true else valid_Graph.p3 k ns es xs (wrap64 (i + 1)))) else none) else none) else some false
def valid_Graph.p4 : Nat → List (S23) → List (S36) → List (S47) → Int → Option Bool
  | 0, _, _, _, _ => none
  | k + 1, ns, es, xs, i => if i < (xs.length : Int) then (if 0 ≤ i then (if (rd_T47 xs i).f1 = -1 then valid_Graph.p4 k ns es xs (wrap64 (i + 1)) else if 0 ≤ (rd_T47 xs i).f0 ∧ (rd_T47 xs i).f0 < (ns.length : Int) then ((graph_Prev.f k ns es (rd_T47 xs i).f0 (rd_T47 xs i).f1).bind fun p => (valid_Graph.bad4 ns (rd_T23 ns (rd_T47 xs i).f0) p).bind fun b => (if b = true then some true else valid_Graph.p4 k ns es xs (wrap64 (i + 1)))) else none) else none) else some false
def valid_Graph.c5 : Nat → List (S23) → List (S36) → Int → Option Bool
  | 0, _, _, _ => none
  | k + 1, ns, es, i => if i < (ns.length : Int) then (if 0 ≤ i then (if (rd_T23 ns i).f0 = 10 then valid_Graph.c5 k ns es (wrap64 (i + 1)) else (valid_round.f k ns es i).bind fun b => (if b = true then some true else valid_Graph.c5 k ns es (wrap64 (i + 1)))) else none) else some false
def valid_Graph.rule (k : Nat) (ns : List (S23)) (es : List (S36)) : Nat → Option Int
  | 0 => (valid_Graph.e1 k ns es 0).bind fun b => some (if b = true then 11 else 0)
  | 1 => (valid_Graph.e2 k ns es 0).bind fun b => some (if b = true then 12 else 0)
  | 2 => (graph_Locs.f k ns es).bind fun xs => (valid_Graph.p3 k ns es xs 0).bind fun b => some (if b = true then 13 else 0)
  | 3 => (graph_Locs.f k ns es).bind fun xs => (valid_Graph.p4 k ns es xs 0).bind fun b => some (if b = true then 15 else 0)
  | _ => (valid_Graph.c5 k ns es 0).bind fun b => some (if b = true then 14 else 0)
def valid_Graph.rs (k : Nat) (ns : List (S23)) (es : List (S36)) : List Nat → Option Int
  | [] => some 0
  | i :: l => (valid_Graph.rule k ns es i).bind fun e => (if e = 0 then valid_Graph.rs k ns es l else some e)
def valid_Graph.f (k : Nat) (l0_0 : List (S23)) (l0_1 : List (S36)) : Option Int :=
  if l0_0.length < 1 ∨ 12 < l0_0.length ∨ 24 < l0_1.length then some 3 else (valid_Graph.n0 k l0_0 0).bind fun b => (if b = true then valid_Graph.rs k l0_0 l0_1 [0, 1, 2, 3, 4] else some 10)
theorem valid_Graph.mono_n : ∀ k, (∀ y0 y1, LeO (valid_Graph.n0 k y0 y1) (valid_Graph.n0 (k + 1) y0 y1))
  | 0 => fun _ _ r h => by simp [valid_Graph.n0] at h
  | k + 1 => by
    have ih0 := valid_Graph.mono_n k
    intro y0 y1
    unfold valid_Graph.n0
    repeat' first
      | (with_reducible exact ih0 _ _)
      | (with_reducible exact valid_Node.mono _ _ _ _ _)
      | (with_reducible exact LeO.refl _)
      | (with_reducible refine LeO.ite ?_ ?_)
      | (with_reducible refine LeO.bind ?_ (fun _ => ?_))
theorem valid_Graph.mono_b (k : Nat) (ns : List (S23)) (es : List (S36)) (e : S36) : LeO (valid_Graph.bad1 k ns es e) (valid_Graph.bad1 (k + 1) ns es e) := by
  unfold valid_Graph.bad1
  repeat' first
      | (with_reducible exact graph_Is.mono _ _ _ _ _)
      | (with_reducible exact LeO.refl _)
      | (with_reducible refine LeO.ite ?_ ?_)
      | (with_reducible refine LeO.bind ?_ (fun _ => ?_))
theorem valid_Graph.mono_e : ∀ k, (∀ y0 y1 y2, LeO (valid_Graph.e1 k y0 y1 y2) (valid_Graph.e1 (k + 1) y0 y1 y2)) ∧ (∀ y0 y1 y2, LeO (valid_Graph.e2 k y0 y1 y2) (valid_Graph.e2 (k + 1) y0 y1 y2))
  | 0 => ⟨fun _ _ _ r h => by simp [valid_Graph.e1] at h, fun _ _ _ r h => by simp [valid_Graph.e2] at h⟩
  | k + 1 => by
    obtain ⟨ih0, ih1⟩ := valid_Graph.mono_e k
    constructor
    · intro y0 y1 y2
      unfold valid_Graph.e1
      repeat' first
      | (with_reducible exact ih0 _ _ _)
      | (with_reducible exact valid_Graph.mono_b _ _ _ _)
      | (with_reducible exact LeO.refl _)
      | (with_reducible refine LeO.ite ?_ ?_)
      | (with_reducible refine LeO.bind ?_ (fun _ => ?_))
    · intro y0 y1 y2
      unfold valid_Graph.e2
      repeat' first
      | (with_reducible exact ih1 _ _ _)
      | (with_reducible exact LeO.refl _)
      | (with_reducible refine LeO.ite ?_ ?_)
      | (with_reducible refine LeO.bind ?_ (fun _ => ?_))
theorem valid_Graph.mono_p : ∀ k, (∀ y0 y1 y2 y3, LeO (valid_Graph.p3 k y0 y1 y2 y3) (valid_Graph.p3 (k + 1) y0 y1 y2 y3)) ∧ (∀ y0 y1 y2 y3, LeO (valid_Graph.p4 k y0 y1 y2 y3) (valid_Graph.p4 (k + 1) y0 y1 y2 y3)) ∧ (∀ y0 y1 y2, LeO (valid_Graph.c5 k y0 y1 y2) (valid_Graph.c5 (k + 1) y0 y1 y2))
  | 0 => ⟨fun _ _ _ _ r h => by simp [valid_Graph.p3] at h, fun _ _ _ _ r h => by simp [valid_Graph.p4] at h, fun _ _ _ r h => by simp [valid_Graph.c5] at h⟩
  | k + 1 => by
    obtain ⟨ih0, ih1, ih2⟩ := valid_Graph.mono_p k
    refine ⟨?_, ?_, ?_⟩
    · intro y0 y1 y2 y3
      unfold valid_Graph.p3
      repeat' first
      | (with_reducible exact ih0 _ _ _ _)
      | (with_reducible exact graph_Prev.mono _ _ _ _ _)
      | (with_reducible exact LeO.refl _)
      | (with_reducible refine LeO.ite ?_ ?_)
      | (with_reducible refine LeO.bind ?_ (fun _ => ?_))
    · intro y0 y1 y2 y3
      unfold valid_Graph.p4
      repeat' first
      | (with_reducible exact ih1 _ _ _ _)
      | (with_reducible exact graph_Prev.mono _ _ _ _ _)
      | (with_reducible exact LeO.refl _)
      | (with_reducible refine LeO.ite ?_ ?_)
      | (with_reducible refine LeO.bind ?_ (fun _ => ?_))
    · intro y0 y1 y2
      unfold valid_Graph.c5
      repeat' first
      | (with_reducible exact ih2 _ _ _)
      | (with_reducible exact valid_round.mono _ _ _ _)
      | (with_reducible exact LeO.refl _)
      | (with_reducible refine LeO.ite ?_ ?_)
      | (with_reducible refine LeO.bind ?_ (fun _ => ?_))
theorem valid_Graph.mono_r (k : Nat) (ns : List (S23)) (es : List (S36)) (i : Nat) : LeO (valid_Graph.rule k ns es i) (valid_Graph.rule (k + 1) ns es i) := by
  obtain ⟨ih0, ih1⟩ := valid_Graph.mono_e k
  obtain ⟨ih2, ih3, ih4⟩ := valid_Graph.mono_p k
  unfold valid_Graph.rule
  split
  all_goals
    repeat' first
      | (with_reducible exact ih0 _ _ _)
      | (with_reducible exact ih1 _ _ _)
      | (with_reducible exact ih2 _ _ _ _)
      | (with_reducible exact ih3 _ _ _ _)
      | (with_reducible exact ih4 _ _ _)
      | (with_reducible exact graph_Locs.mono _ _ _)
      | (with_reducible exact LeO.refl _)
      | (with_reducible refine LeO.bind ?_ (fun _ => ?_))
theorem valid_Graph.mono_s (k : Nat) (ns : List (S23)) (es : List (S36)) (l : List Nat) : LeO (valid_Graph.rs k ns es l) (valid_Graph.rs (k + 1) ns es l) := by
  induction l with
  | nil => exact LeO.refl _
  | cons i l ih =>
    unfold valid_Graph.rs
    exact LeO.bind (valid_Graph.mono_r k ns es i) (fun _ => LeO.ite ih (LeO.refl _))
theorem valid_Graph.mono : ∀ a0 a1 k, LeO (valid_Graph.f k a0 a1) (valid_Graph.f (k + 1) a0 a1) := by
  intro a0 a1 k
  unfold valid_Graph.f
  exact LeO.ite (LeO.refl _) (LeO.bind (valid_Graph.mono_n k _ _) (fun _ => LeO.ite (valid_Graph.mono_s k _ _ _) (LeO.refl _)))
set_option maxHeartbeats 8000000 in
set_option maxRecDepth 100000 in
theorem valid_Graph.bad1_calls (k : Nat) (A0 : Option Addr) (c0 : Nat) (l0 : List (S23)) (A1 : Option Addr) (c1 : Nat) (l1 : List (S36)) (e0 e1 e2 : Int) (g : Nat) (r : Bool) (w : World)
    (hr0 : Kd.C k23 w A0 l0.length l0) (hc0 : l0.length ≤ c0) (hr1 : Kd.C k36 w A1 l1.length l1) (hc1 : l1.length ≤ c1)
    (hg : w.heap[g]? = some (.cells #[.slice A0 l0.length c0, .slice A1 l1.length c1] 29 (0, 0))) (h : valid_Graph.bad1 k l0 l1 ⟨e0, e1, e2⟩ = some r) :
    Calls Try.prog 54 #[.agg #[.int .i64 e0, .int .i64 e1, .int .i64 e2], .pointer (some ⟨g, 0, none⟩)] w fun e w' => e = .returned (.bool r) ∧ Below w.heap.size w w' := by
  have hu1 := Try.underlying29
  have hu2 := Try.underlying36
  have hu3 := Try.underlying47
  have HR0 := Aside0.mk hr0
  have HC0 := Aside0.mk hc0
  have HR1 := Aside0.mk hr1
  have HC1 := Aside0.mk hc1
  have HG := Aside0.mk hg
  unfold valid_Graph.bad1 at h
  simp only at h
  have hgl : g < w.heap.size := blk_lt hg
  have hne1 : (g = w.heap.size) = False := eq_false (by omega)
  have hne2 : (w.heap.size = g) = False := eq_false (by omega)
  have HX0 := Aside0.mk (show w.cell? ⟨g, 0, none⟩ = some (.slice A0 l0.length c0) from (blk_cell hg 0).trans rfl)
  have HX1 := Aside0.mk (show w.cell? ⟨g, 1, none⟩ = some (.slice A1 l1.length c1) from (blk_cell hg 1).trans rfl)
  clear hr0 hc0 hr1 hc1 hg
  have HB := Aside0.mk (below_alloc (Below.refl w.heap.size w) (.cells #[.int .i64 e0, .int .i64 e1, .int .i64 e2] 36))
  have BE := Aside0.mk (blk_new w (.cells #[.int .i64 e0, .int .i64 e1, .int .i64 e2] 36))
  have BG := Aside0.mk (blk_alloc HG.out (.cells #[.int .i64 e0, .int .i64 e1, .int .i64 e2] 36))
  by_cases c : e2 = -1
  · rw [if_pos c] at h
    obtain rfl := Option.some.inj h
    subst c
    clear h
    have hx0 := HX0.out
    have hx1 := HX1.out
    go_enter Try.func54, Try.ntmps54
    go_wp2
    go_ret
    exact ⟨rfl, HB.out⟩
  · rw [if_neg c] at h
    have cb : (e2 == -1) = false := beq_eq_false_iff_ne.mpr c
    clear c
    obtain ⟨b, h1, h⟩ := Option.bind_eq_some_iff.mp h
    have H1 := Aside0.mk h1
    clear h1
    cases b with
    | false =>
      rw [if_neg (by simp)] at h
      obtain rfl := Option.some.inj h
      clear h
      have hx0 := HX0.out
      have hx1 := HX1.out
      go_enter Try.func54, Try.ntmps54
      go_wp2_with (first | (go_at_call 55; (with_reducible refine (graph_Is.calls k A0 c0 l0 A1 c1 l1 e0 (-1) false _ (Kd.C_below HR0.out HB.out) HC0.out (Kd.C_below HR1.out HB.out) HC1.out H1.out).mono ?_); rintro e w1 ⟨rfl, hb⟩; have HB1 := Aside0.mk (below_step HB.out hb); clear hb))
      go_ret
      exact ⟨rfl, HB1.out⟩
    | true =>
      rw [if_pos rfl] at h
      obtain ⟨c, h2, h⟩ := Option.bind_eq_some_iff.mp h
      have H2 := Aside0.mk h2
      clear h2
      obtain rfl := Option.some.inj h
      clear h
      have hx0 := HX0.out
      have hx1 := HX1.out
      go_enter Try.func54, Try.ntmps54
      go_wp2_with (first
        | (go_at_call 55; (with_reducible refine (graph_Is.calls k A0 c0 l0 A1 c1 l1 e0 (-1) true _ (Kd.C_below HR0.out HB.out) HC0.out (Kd.C_below HR1.out HB.out) HC1.out H1.out).mono ?_); rintro e w1 ⟨rfl, hb⟩; have HB1 := Aside0.mk (below_step HB.out hb); have BE1 := Aside0.mk (blk_below BE.out hb); have BG1 := Aside0.mk (blk_below BG.out hb); clear hb; have q0 : w1.cell? ⟨g, 0, none⟩ = some (.slice A0 l0.length c0) := (blk_cell BG1.out 0).trans rfl; have q1 : w1.cell? ⟨g, 1, none⟩ = some (.slice A1 l1.length c1) := (blk_cell BG1.out 1).trans rfl; have q2 : w1.cell? ⟨w.heap.size, 0, none⟩ = some (.int .i64 e0) := (blk_cell BE1.out 0).trans rfl; have q3 : w1.cell? ⟨w.heap.size, 1, none⟩ = some (.int .i64 e1) := (blk_cell BE1.out 1).trans rfl; have q4 : w1.cell? ⟨w.heap.size, 2, none⟩ = some (.int .i64 e2) := (blk_cell BE1.out 2).trans rfl)
        | (go_at_call 55; (with_reducible refine (graph_Is.calls k A0 c0 l0 A1 c1 l1 e1 e2 c _ (Kd.C_below HR0.out HB1.out) HC0.out (Kd.C_below HR1.out HB1.out) HC1.out H2.out).mono ?_); rintro e w2 ⟨rfl, hb⟩; have HB2 := Aside0.mk (below_step HB1.out hb); clear hb))
      go_ret
      exact ⟨rfl, HB2.out⟩
set_option maxHeartbeats 8000000 in
set_option maxRecDepth 100000 in
theorem valid_Graph.bad3_calls (n0 n1 n2 n3 : Int) (A : Option Addr) (c : Nat) (p : List Int) (r : Bool) (w : World) (h : valid_Graph.bad3 p = some r) :
    Calls Try.prog 57 #[.agg #[.int .i64 n0, .int .i64 n1, .int .i64 n2, .int .i64 n3], .slice A p.length c] w fun e w' => e = .returned (.bool r) ∧ Below w.heap.size w w' := by
  have hu1 := Try.underlying23
  obtain rfl := Option.some.inj h
  clear h
  have HB := Aside0.mk (Below.refl w.heap.size w)
  go_enter Try.func57, Try.ntmps57
  go_wp2
  go_ret
  exact ⟨rfl, below_alloc HB.out _⟩
set_option maxHeartbeats 8000000 in
set_option maxRecDepth 100000 in
theorem valid_Graph.bad2_calls (A0 : Option Addr) (c0 : Nat) (l0 : List (S23)) (A1 : Option Addr) (c1 : Nat) (l1 : List (S36)) (e0 e1 e2 : Int) (g : Nat) (r : Bool) (w : World)
    (hr0 : Kd.C k23 w A0 l0.length l0) (hg : w.heap[g]? = some (.cells #[.slice A0 l0.length c0, .slice A1 l1.length c1] 29 (0, 0))) (h : valid_Graph.bad2 l0 ⟨e0, e1, e2⟩ = some r) :
    Calls Try.prog 56 #[.agg #[.int .i64 e0, .int .i64 e1, .int .i64 e2], .pointer (some ⟨g, 0, none⟩)] w fun e w' => e = .returned (.bool r) ∧ Below w.heap.size w w' := by
  have hu1 := Try.underlying29
  have hu2 := Try.underlying36
  have hu3 := Try.underlying23
  have HG := Aside0.mk hg
  unfold valid_Graph.bad2 at h
  simp only at h
  have hb : 0 ≤ e0 ∧ e0 < (l0.length : Int) ∧ 0 ≤ e1 ∧ e1 < (l0.length : Int) := by
    rcases Classical.em (0 ≤ e0 ∧ e0 < (l0.length : Int) ∧ 0 ≤ e1 ∧ e1 < (l0.length : Int)) with c | c
    · exact c
    · rw [if_neg c] at h; cases h
  rw [if_pos hb] at h
  obtain ⟨d, h1, h⟩ := Option.bind_eq_some_iff.mp h
  have H1 := Aside0.mk h1
  clear h1
  obtain rfl := Option.some.inj h
  clear h
  have hgl : g < w.heap.size := blk_lt hg
  have hne1 : (g = w.heap.size) = False := eq_false (by omega)
  have hne2 : (w.heap.size = g) = False := eq_false (by omega)
  obtain ⟨W0, hW0⟩ : ∃ W0 : World, W0 = w.alloc (.cells #[.int .i64 e0, .int .i64 e1, .int .i64 e2] 36) := ⟨_, rfl⟩
  have HB := Aside0.mk (show Below w.heap.size w W0 from by rw [hW0]; exact below_alloc (Below.refl w.heap.size w) _)
  have BE := Aside0.mk (show W0.heap[w.heap.size]? = some (.cells #[.int .i64 e0, .int .i64 e1, .int .i64 e2] 36 (0, 0)) from by rw [hW0]; exact blk_new _ _)
  have BG := Aside0.mk (show W0.heap[g]? = some (.cells #[.slice A0 l0.length c0, .slice A1 l1.length c1] 29 (0, 0)) from by rw [hW0]; exact blk_alloc hg _)
  have HR := Aside0.mk (Kd.C_below hr0 HB.out)
  have HW := Aside0.mk hW0
  clear hW0 hg hr0
  obtain ⟨ad, ea, hn0, hn1, hn2, hn3⟩ := at_T23 HR.out e0 hb.1 hb.2.1
  obtain ⟨ad', ea', hm0, hm1, hm2, hm3⟩ := at_T23 HR.out e1 hb.2.2.1 hb.2.2.2
  obtain rfl : ad = ad' := by rw [ea] at ea'; exact Option.some.inj ea'
  cases ea
  clear ea'
  have p0 : (0 ≤ e0) = True := eq_true hb.1
  have p1 : (e0 < (l0.length : Int)) = True := eq_true hb.2.1
  have p2 : (0 ≤ e1) = True := eq_true hb.2.2.1
  have p3 : (e1 < (l0.length : Int)) = True := eq_true hb.2.2.2
  have p0b : decide (0 ≤ e0) = true := decide_eq_true hb.1
  have p1b : decide (e0 < (l0.length : Int)) = true := decide_eq_true hb.2.1
  have p2b : decide (0 ≤ e1) = true := decide_eq_true hb.2.2.1
  have p3b : decide (e1 < (l0.length : Int)) = true := decide_eq_true hb.2.2.2
  clear hb
  go_enter Try.func56, Try.ntmps56
  go_wp2_with (fail)
  rw [← HW.out]
  have hx0 : W0.cell? ⟨g, 0, none⟩ = some (.slice (some ad) l0.length c0) := (blk_cell BG.out 0).trans rfl
  have hx1 : W0.cell? ⟨g, 1, none⟩ = some (.slice A1 l1.length c1) := (blk_cell BG.out 1).trans rfl
  have hy0 : W0.cell? ⟨w.heap.size, 0, none⟩ = some (.int .i64 e0) := (blk_cell BE.out 0).trans rfl
  have hy1 : W0.cell? ⟨w.heap.size, 1, none⟩ = some (.int .i64 e1) := (blk_cell BE.out 1).trans rfl
  go_region_held3 (fun w' => w'.cell? ⟨g, 0, none⟩ = some (.slice (some ad) l0.length c0) ∧ w'.cell? ⟨w.heap.size, 0, none⟩ = some (.int .i64 e0) ∧ w'.cell? ⟨w.heap.size, 1, none⟩ = some (.int .i64 e1) ∧ w'.cell? ⟨(ad.add (e0.toNat * 4)).block, (ad.add (e0.toNat * 4)).off + 3, none⟩ = some (.int .i64 (rd_T23 l0 e0).f3) ∧ w'.cell? (ad.add (e1.toNat * 4)) = some (.int .i64 (rd_T23 l0 e1).f0) ∧ w'.cell? ⟨(ad.add (e1.toNat * 4)).block, (ad.add (e1.toNat * 4)).off + 1, none⟩ = some (.int .i64 (rd_T23 l0 e1).f1) ∧ w'.cell? ⟨(ad.add (e1.toNat * 4)).block, (ad.add (e1.toNat * 4)).off + 2, none⟩ = some (.int .i64 (rd_T23 l0 e1).f2) ∧ w'.cell? ⟨(ad.add (e1.toNat * 4)).block, (ad.add (e1.toNat * 4)).off + 3, none⟩ = some (.int .i64 (rd_T23 l0 e1).f3)) (go_keep)
    (first | (go_at_call 39; (with_reducible refine (graph_InDepth.calls (rd_T23 l0 e1).f0 (rd_T23 l0 e1).f1 (rd_T23 l0 e1).f2 (rd_T23 l0 e1).f3 d _ H1.out).mono ?_); rintro e w1 ⟨rfl, hb⟩; have q0 := (hb.cell (World.block_lt_of_cell? _ _ (show W0.drew.cell? _ = _ from hx0))).trans hx0; have q1 := (hb.cell (World.block_lt_of_cell? _ _ (show W0.drew.cell? _ = _ from hy0))).trans hy0; have q2 := (hb.cell (World.block_lt_of_cell? _ _ (show W0.drew.cell? _ = _ from hy1))).trans hy1; have q3 := (hb.cell (World.block_lt_of_cell? _ _ (show W0.drew.cell? _ = _ from hn3))).trans hn3; have q4 := (hb.cell (World.block_lt_of_cell? _ _ (show W0.drew.cell? _ = _ from hm0))).trans hm0; have q5 := (hb.cell (World.block_lt_of_cell? _ _ (show W0.drew.cell? _ = _ from hm1))).trans hm1; have q6 := (hb.cell (World.block_lt_of_cell? _ _ (show W0.drew.cell? _ = _ from hm2))).trans hm2; have q7 := (hb.cell (World.block_lt_of_cell? _ _ (show W0.drew.cell? _ = _ from hm3))).trans hm3; have HB1 := Aside0.mk (below_step (below_drew HB.out) hb); clear hb))
  go_wp2
  go_ret
  exact ⟨rfl, HB1.out⟩
set_option maxHeartbeats 8000000 in
set_option maxRecDepth 100000 in
theorem valid_Graph.bad4_calls (A0 : Option Addr) (c0 : Nat) (l0 : List (S23)) (A1 : Option Addr) (c1 : Nat) (l1 : List (S36)) (n0 n1 n2 n3 : Int) (A : Option Addr) (c : Nat) (p : List Int) (g : Nat) (r : Bool) (w : World)
    (hr0 : Kd.C k23 w A0 l0.length l0) (hrp : Kd.C (Kd.int .i64) w A p.length p) (hg : w.heap[g]? = some (.cells #[.slice A0 l0.length c0, .slice A1 l1.length c1] 29 (0, 0))) (h : valid_Graph.bad4 l0 ⟨n0, n1, n2, n3⟩ p = some r) :
    Calls Try.prog 58 #[.agg #[.int .i64 n0, .int .i64 n1, .int .i64 n2, .int .i64 n3], .slice A p.length c, .pointer (some ⟨g, 0, none⟩)] w fun e w' => e = .returned (.bool r) ∧ Below w.heap.size w w' := by
  have hu1 := Try.underlying29
  have hu3 := Try.underlying23
  unfold valid_Graph.bad4 at h
  simp only at h
  have hgl : g < w.heap.size := blk_lt hg
  have hne1 : (g = w.heap.size) = False := eq_false (by omega)
  have hne2 : (w.heap.size = g) = False := eq_false (by omega)
  obtain ⟨W0, hW0⟩ : ∃ W0 : World, W0 = w.alloc (.cells #[.int .i64 n0, .int .i64 n1, .int .i64 n2, .int .i64 n3] 23) := ⟨_, rfl⟩
  have HB := Aside0.mk (show Below w.heap.size w W0 from by rw [hW0]; exact below_alloc (Below.refl w.heap.size w) _)
  have BE := Aside0.mk (show W0.heap[w.heap.size]? = some (.cells #[.int .i64 n0, .int .i64 n1, .int .i64 n2, .int .i64 n3] 23 (0, 0)) from by rw [hW0]; exact blk_new _ _)
  have BG := Aside0.mk (show W0.heap[g]? = some (.cells #[.slice A0 l0.length c0, .slice A1 l1.length c1] 29 (0, 0)) from by rw [hW0]; exact blk_alloc hg _)
  have HR := Aside0.mk (Kd.C_below hr0 HB.out)
  have HRP := Aside0.mk (Kd.C_below hrp HB.out)
  have HW := Aside0.mk hW0
  clear hW0 hg hr0 hrp
  by_cases c6 : n0 = 6 ∨ n0 = 7
  · rw [if_pos c6] at h
    have hb : 0 < p.length ∧ 0 ≤ rd p 0 ∧ rd p 0 < (l0.length : Int) := by
      rcases Classical.em (0 < p.length ∧ 0 ≤ rd p 0 ∧ rd p 0 < (l0.length : Int)) with c | c
      · exact c
      · rw [if_neg c] at h; cases h
    rw [if_pos hb] at h
    obtain rfl := Option.some.inj h
    clear h
    obtain ⟨ap, ea, hp0⟩ := Kd.at_int HRP.out 0 (by omega) (by omega)
    cases ea
    replace hp0 : W0.cell? ap = some (.int .i64 (rd p 0)) := by have e : ap.add (0 : Int).toNat = ap := (by cases ap; rfl); rw [e] at hp0; exact hp0
    obtain ⟨ad, ea, hn0, hn1, hn2, hn3⟩ := at_T23 HR.out (rd p 0) hb.2.1 hb.2.2
    cases ea
    have p0 : (0 ≤ rd p 0) = True := eq_true hb.2.1
    have p1 : (rd p 0 < (l0.length : Int)) = True := eq_true hb.2.2
    have p0b : decide (0 ≤ rd p 0) = true := decide_eq_true hb.2.1
    have p1b : decide (rd p 0 < (l0.length : Int)) = true := decide_eq_true hb.2.2
    have p2 : (0 < p.length) = True := eq_true hb.1
    have p2i : ((0 : Int) < (p.length : Int)) = True := eq_true (by omega)
    have p2b : decide (0 < p.length) = true := decide_eq_true hb.1
    clear hb
    have c6b : (n0 == 6 || n0 == 7) = true := by rcases c6 with rfl | rfl <;> rfl
    have hx0 : W0.cell? ⟨g, 0, none⟩ = some (.slice (some ad) l0.length c0) := (blk_cell BG.out 0).trans rfl
    have hy0 : W0.cell? ⟨w.heap.size, 0, none⟩ = some (.int .i64 n0) := (blk_cell BE.out 0).trans rfl
    rcases c6 with rfl | rfl
    · go_enter Try.func58, Try.ntmps58
      go_wp2_with (fail)
      rw [← HW.out]
      go_quiet (fail)
      go_wp2
      go_ret
      exact ⟨rfl, pw_below_drewN HB.out _⟩
    · go_enter Try.func58, Try.ntmps58
      go_wp2_with (fail)
      rw [← HW.out]
      go_quiet (fail)
      go_wp2
      go_ret
      exact ⟨rfl, pw_below_drewN HB.out _⟩
  · rw [if_neg c6] at h
    obtain rfl := Option.some.inj h
    clear h
    have b6 : (n0 == 6) = false := beq_eq_false_iff_ne.mpr (fun e => c6 (.inl e))
    have b7 : (n0 == 7) = false := beq_eq_false_iff_ne.mpr (fun e => c6 (.inr e))
    clear c6
    have hy0 : W0.cell? ⟨w.heap.size, 0, none⟩ = some (.int .i64 n0) := (blk_cell BE.out 0).trans rfl
    go_enter Try.func58, Try.ntmps58
    go_wp2_with (fail)
    rw [← HW.out]
    go_quiet (fail)
    go_wp2
    go_ret
    exact ⟨rfl, pw_below_drewN HB.out _⟩
set_option maxHeartbeats 8000000 in
set_option maxRecDepth 100000 in
theorem valid_Graph.e1_calls (k : Nat) (A0 : Option Addr) (c0 : Nat) (l0 : List (S23)) (A1 : Option Addr) (c1 : Nat) (l1 : List (S36)) (g gb ge : Nat) (r : Bool) (w : World)
    (hr0 : Kd.C k23 w A0 l0.length l0) (hc0 : l0.length ≤ c0) (hr1 : Kd.C k36 w A1 l1.length l1) (hc1 : l1.length ≤ c1)
    (hg : w.heap[g]? = some (.cells #[.slice A0 l0.length c0, .slice A1 l1.length c1] 29 (0, 0))) (hgb : w.heap[gb]? = some (.cells #[.func (.func 54) #[] #[.pointer (some ⟨g, 0, none⟩)]] 70 (0, 0))) (hge : w.heap[ge]? = some (.cells #[.int .i64 11] 31 (0, 0)))
    (h : valid_Graph.e1 k l0 l1 0 = some r) :
    Calls Try.prog 49 #[.pointer (some ⟨g, 0, none⟩), .pointer (some ⟨gb, 0, none⟩), .pointer (some ⟨ge, 0, none⟩)] w fun e w' => e = .returned (.int .i64 (if r = true then 11 else 0)) ∧ Below w.heap.size w w' := by
  have hu1 := Try.underlying29
  have hu2 := Try.underlying36
  have hu3 := Try.underlying70
  have hu4 := Try.underlying31
  have HR0 := Aside0.mk hr0
  have HC0 := Aside0.mk hc0
  have HR1 := Aside0.mk hr1
  have HC1 := Aside0.mk hc1
  have HG := Aside0.mk hg
  have HGB := Aside0.mk hgb
  have HGE := Aside0.mk hge
  have H' := Aside0.mk h
  have hx1 : w.cell? ⟨g, 1, none⟩ = some (.slice A1 l1.length c1) := (blk_cell hg 1).trans rfl
  clear hr0 hc0 hr1 hc1 hg hgb hge h
  have HB := Aside0.mk (Below.refl w.heap.size w)
  go_enter Try.func49, Try.ntmps49
  go_wp2_with (fail)
  go_loopg [9] k (fun kq v9 w' => ∃ (i : Int), v9 = .int .i64 i ∧ Aside0 (valid_Graph.e1 kq l0 l1 i = some r) ∧ Aside0 (kq ≤ k) ∧ Aside0 (Below w.heap.size w w'))
  case atStart => exact ⟨0, rfl, H', ⟨Nat.le_refl _⟩, HB⟩
  case round =>
    clear H' HB hx1
    obtain ⟨i, rfl, HA, HK1, HB⟩ := hrel
    cases gk with
    | zero => exact absurd HA.out (by simp [valid_Graph.e1])
    | succ k1 =>
      have H := HA.out
      clear HA
      simp only [valid_Graph.e1] at H
      by_cases c6 : i < (l1.length : Int)
      · rw [if_pos c6] at H
        by_cases c7 : 0 ≤ i
        · rw [if_pos c7] at H
          obtain ⟨b, h1, H⟩ := Option.bind_eq_some_iff.mp H
          have H1 := Aside0.mk h1
          have HH := Aside0.mk H
          clear h1 H
          have c6b0 : decide (i < (l1.length : Int)) = true := decide_eq_true c6
          have c7b0 : decide (0 ≤ i) = true := decide_eq_true c7
          obtain ⟨ad, e168, hx0, hx1, hx2⟩ := at_T36 HR1.out i c7 c6
          cases e168
          replace hx0 := (HB.out.cell (World.block_lt_of_cell? w _ hx0)).trans hx0
          replace hx1 := (HB.out.cell (World.block_lt_of_cell? w _ hx1)).trans hx1
          replace hx2 := (HB.out.cell (World.block_lt_of_cell? w _ hx2)).trans hx2
          replace c6 := eq_true c6
          replace c7 := eq_true c7
          have BG := Aside0.mk (blk_below HG.out HB.out)
          have BGB := Aside0.mk (blk_below HGB.out HB.out)
          have BGE := Aside0.mk (blk_below HGE.out HB.out)
          have hgb0 : wr.cell? ⟨gb, 0, none⟩ = some (.func (.func 54) #[] #[.pointer (some ⟨g, 0, none⟩)]) := (blk_cell BGB.out 0).trans rfl
          have hge0 : wr.cell? ⟨ge, 0, none⟩ = some (.int .i64 11) := (blk_cell BGE.out 0).trans rfl
          have lgb : gb < wr.heap.size := blk_lt BGB.out
          have lge : ge < wr.heap.size := blk_lt BGE.out
          have ngb : (gb = wr.heap.size) = False := eq_false (Nat.ne_of_lt (blk_lt BGB.out))
          have nge : (ge = wr.heap.size) = False := eq_false (Nat.ne_of_lt (blk_lt BGE.out))
          have ngb' : (wr.heap.size = gb) = False := eq_false (Nat.ne_of_gt (blk_lt BGB.out))
          have nge' : (wr.heap.size = ge) = False := eq_false (Nat.ne_of_gt (blk_lt BGE.out))
          cases b with
          | true =>
            have H : some true = some r := by simpa using HH.out
            obtain rfl := Option.some.inj H
            clear H HH
            go_wp2_with (first | (go_at_call 54; (with_reducible refine (valid_Graph.bad1_calls k1 A0 c0 l0 (some ad) c1 l1 (rd_T36 l1 i).f0 (rd_T36 l1 i).f1 (rd_T36 l1 i).f2 g true _ (Kd.C_below HR0.out (below_alloc HB.out _)) HC0.out (Kd.C_below HR1.out (below_alloc HB.out _)) HC1.out (blk_alloc BG.out _) H1.out).mono ?_); rintro e w1 ⟨rfl, hb⟩; have HB1 := Aside0.mk (below_step (below_alloc HB.out _) hb); have BGE1 := Aside0.mk (blk_below (blk_alloc BGE.out _) hb); have hge1 : w1.cell? ⟨ge, 0, none⟩ = some (.int .i64 11) := (blk_cell BGE1.out 0).trans rfl; clear hb))
            go_ret
            exact ⟨rfl, HB1.out⟩
          | false =>
            go_wp2_with (first | (go_at_call 54; (with_reducible refine (valid_Graph.bad1_calls k1 A0 c0 l0 (some ad) c1 l1 (rd_T36 l1 i).f0 (rd_T36 l1 i).f1 (rd_T36 l1 i).f2 g false _ (Kd.C_below HR0.out (below_alloc HB.out _)) HC0.out (Kd.C_below HR1.out (below_alloc HB.out _)) HC1.out (blk_alloc BG.out _) H1.out).mono ?_); rintro e w1 ⟨rfl, hb⟩; have HB1 := Aside0.mk (below_step (below_alloc HB.out _) hb); clear hb))
            have H' := Aside0.mk (show valid_Graph.e1 k1 l0 l1 (wrap64 (i + 1)) = some r from by simpa using HH.out)
            clear HH
            go_roundg k1
            case measure => have := HK1.out; omega
            case rel => exact ⟨_, rfl, H', ⟨by have := HK1.out; omega⟩, HB1⟩
        · rw [if_neg c7] at H
          exact absurd H (by simp)
      · rw [if_neg c6] at H
        obtain rfl := Option.some.inj H
        have c6b0 : decide (i < (l1.length : Int)) = false := decide_eq_false c6
        clear c6
        go_wp2
        go_ret
        exact ⟨rfl, HB.out⟩
set_option maxHeartbeats 8000000 in
set_option maxRecDepth 100000 in
theorem valid_Graph.e2_calls (k : Nat) (A0 : Option Addr) (c0 : Nat) (l0 : List (S23)) (A1 : Option Addr) (c1 : Nat) (l1 : List (S36)) (g gb ge : Nat) (r : Bool) (w : World)
    (hr0 : Kd.C k23 w A0 l0.length l0) (hc0 : l0.length ≤ c0) (hr1 : Kd.C k36 w A1 l1.length l1) (hc1 : l1.length ≤ c1)
    (hg : w.heap[g]? = some (.cells #[.slice A0 l0.length c0, .slice A1 l1.length c1] 29 (0, 0))) (hgb : w.heap[gb]? = some (.cells #[.func (.func 56) #[] #[.pointer (some ⟨g, 0, none⟩)]] 70 (0, 0))) (hge : w.heap[ge]? = some (.cells #[.int .i64 12] 31 (0, 0)))
    (h : valid_Graph.e2 k l0 l1 0 = some r) :
    Calls Try.prog 49 #[.pointer (some ⟨g, 0, none⟩), .pointer (some ⟨gb, 0, none⟩), .pointer (some ⟨ge, 0, none⟩)] w fun e w' => e = .returned (.int .i64 (if r = true then 12 else 0)) ∧ Below w.heap.size w w' := by
  have hu1 := Try.underlying29
  have hu2 := Try.underlying36
  have hu3 := Try.underlying70
  have hu4 := Try.underlying31
  have HR0 := Aside0.mk hr0
  have HC0 := Aside0.mk hc0
  have HR1 := Aside0.mk hr1
  have HC1 := Aside0.mk hc1
  have HG := Aside0.mk hg
  have HGB := Aside0.mk hgb
  have HGE := Aside0.mk hge
  have H' := Aside0.mk h
  have hx1 : w.cell? ⟨g, 1, none⟩ = some (.slice A1 l1.length c1) := (blk_cell hg 1).trans rfl
  clear hr0 hc0 hr1 hc1 hg hgb hge h
  have HB := Aside0.mk (Below.refl w.heap.size w)
  go_enter Try.func49, Try.ntmps49
  go_wp2_with (fail)
  go_loopg [9] k (fun kq v9 w' => ∃ (i : Int), v9 = .int .i64 i ∧ Aside0 (valid_Graph.e2 kq l0 l1 i = some r) ∧ Aside0 (kq ≤ k) ∧ Aside0 (Below w.heap.size w w'))
  case atStart => exact ⟨0, rfl, H', ⟨Nat.le_refl _⟩, HB⟩
  case round =>
    clear H' HB hx1
    obtain ⟨i, rfl, HA, HK1, HB⟩ := hrel
    cases gk with
    | zero => exact absurd HA.out (by simp [valid_Graph.e2])
    | succ k1 =>
      have H := HA.out
      clear HA
      simp only [valid_Graph.e2] at H
      by_cases c6 : i < (l1.length : Int)
      · rw [if_pos c6] at H
        by_cases c7 : 0 ≤ i
        · rw [if_pos c7] at H
          obtain ⟨b, h1, H⟩ := Option.bind_eq_some_iff.mp H
          have H1 := Aside0.mk h1
          have HH := Aside0.mk H
          clear h1 H
          have c6b0 : decide (i < (l1.length : Int)) = true := decide_eq_true c6
          have c7b0 : decide (0 ≤ i) = true := decide_eq_true c7
          obtain ⟨ad, e168, hx0, hx1, hx2⟩ := at_T36 HR1.out i c7 c6
          cases e168
          replace hx0 := (HB.out.cell (World.block_lt_of_cell? w _ hx0)).trans hx0
          replace hx1 := (HB.out.cell (World.block_lt_of_cell? w _ hx1)).trans hx1
          replace hx2 := (HB.out.cell (World.block_lt_of_cell? w _ hx2)).trans hx2
          replace c6 := eq_true c6
          replace c7 := eq_true c7
          have BG := Aside0.mk (blk_below HG.out HB.out)
          have BGB := Aside0.mk (blk_below HGB.out HB.out)
          have BGE := Aside0.mk (blk_below HGE.out HB.out)
          have hgb0 : wr.cell? ⟨gb, 0, none⟩ = some (.func (.func 56) #[] #[.pointer (some ⟨g, 0, none⟩)]) := (blk_cell BGB.out 0).trans rfl
          have hge0 : wr.cell? ⟨ge, 0, none⟩ = some (.int .i64 12) := (blk_cell BGE.out 0).trans rfl
          have lgb : gb < wr.heap.size := blk_lt BGB.out
          have lge : ge < wr.heap.size := blk_lt BGE.out
          have ngb : (gb = wr.heap.size) = False := eq_false (Nat.ne_of_lt (blk_lt BGB.out))
          have nge : (ge = wr.heap.size) = False := eq_false (Nat.ne_of_lt (blk_lt BGE.out))
          have ngb' : (wr.heap.size = gb) = False := eq_false (Nat.ne_of_gt (blk_lt BGB.out))
          have nge' : (wr.heap.size = ge) = False := eq_false (Nat.ne_of_gt (blk_lt BGE.out))
          cases b with
          | true =>
            have H : some true = some r := by simpa using HH.out
            obtain rfl := Option.some.inj H
            clear H HH
            go_wp2_with (first | (go_at_call 56; (with_reducible refine (valid_Graph.bad2_calls A0 c0 l0 (some ad) c1 l1 (rd_T36 l1 i).f0 (rd_T36 l1 i).f1 (rd_T36 l1 i).f2 g true _ (Kd.C_below HR0.out (below_alloc HB.out _)) (blk_alloc BG.out _) H1.out).mono ?_); rintro e w1 ⟨rfl, hb⟩; have HB1 := Aside0.mk (below_step (below_alloc HB.out _) hb); have BGE1 := Aside0.mk (blk_below (blk_alloc BGE.out _) hb); have hge1 : w1.cell? ⟨ge, 0, none⟩ = some (.int .i64 12) := (blk_cell BGE1.out 0).trans rfl; clear hb))
            go_ret
            exact ⟨rfl, HB1.out⟩
          | false =>
            go_wp2_with (first | (go_at_call 56; (with_reducible refine (valid_Graph.bad2_calls A0 c0 l0 (some ad) c1 l1 (rd_T36 l1 i).f0 (rd_T36 l1 i).f1 (rd_T36 l1 i).f2 g false _ (Kd.C_below HR0.out (below_alloc HB.out _)) (blk_alloc BG.out _) H1.out).mono ?_); rintro e w1 ⟨rfl, hb⟩; have HB1 := Aside0.mk (below_step (below_alloc HB.out _) hb); clear hb))
            have H' := Aside0.mk (show valid_Graph.e2 k1 l0 l1 (wrap64 (i + 1)) = some r from by simpa using HH.out)
            clear HH
            go_roundg k1
            case measure => have := HK1.out; omega
            case rel => exact ⟨_, rfl, H', ⟨by have := HK1.out; omega⟩, HB1⟩
        · rw [if_neg c7] at H
          exact absurd H (by simp)
      · rw [if_neg c6] at H
        obtain rfl := Option.some.inj H
        have c6b0 : decide (i < (l1.length : Int)) = false := decide_eq_false c6
        clear c6
        go_wp2
        go_ret
        exact ⟨rfl, HB.out⟩
set_option maxHeartbeats 16000000 in
set_option maxRecDepth 100000 in
theorem valid_Graph.p3_calls (k : Nat) (A0 : Option Addr) (c0 : Nat) (l0 : List (S23)) (A1 : Option Addr) (c1 : Nat) (l1 : List (S36)) (xs : List (S47)) (g gb ge : Nat) (r : Bool) (w : World)
    (hr0 : Kd.C k23 w A0 l0.length l0) (hc0 : l0.length ≤ c0) (hr1 : Kd.C k36 w A1 l1.length l1) (hc1 : l1.length ≤ c1)
    (hg : w.heap[g]? = some (.cells #[.slice A0 l0.length c0, .slice A1 l1.length c1] 29 (0, 0))) (hgb : w.heap[gb]? = some (.cells #[.func (.func 57) #[] #[]] 72 (0, 0))) (hge : w.heap[ge]? = some (.cells #[.int .i64 13] 31 (0, 0)))
    (hl : graph_Locs.f k l0 l1 = some xs) (h : valid_Graph.p3 k l0 l1 xs 0 = some r) :
    Calls Try.prog 51 #[.pointer (some ⟨g, 0, none⟩), .pointer (some ⟨gb, 0, none⟩), .pointer (some ⟨ge, 0, none⟩)] w fun e w' => e = .returned (.int .i64 (if r = true then 13 else 0)) ∧ Below w.heap.size w w' := by
  have hu1 := Try.underlying29
  have hu2 := Try.underlying47
  have hu3 := Try.underlying72
  have hu4 := Try.underlying31
  have hu5 := Try.underlying23
  have HR0 := Aside0.mk hr0
  have HC0 := Aside0.mk hc0
  have HR1 := Aside0.mk hr1
  have HC1 := Aside0.mk hc1
  have HG := Aside0.mk hg
  have HGB := Aside0.mk hgb
  have HGE := Aside0.mk hge
  have H' := Aside0.mk h
  have HL := Aside0.mk hl
  have hx0 : w.cell? ⟨g, 0, none⟩ = some (.slice A0 l0.length c0) := (blk_cell hg 0).trans rfl
  have hx1 : w.cell? ⟨g, 1, none⟩ = some (.slice A1 l1.length c1) := (blk_cell hg 1).trans rfl
  clear hr0 hc0 hr1 hc1 hg hgb hge h hl
  go_enter Try.func51, Try.ntmps51
  go_wp2_with (first | (go_at_call 52; (with_reducible refine (graph_Locs.calls k A0 c0 l0 A1 c1 l1 xs _ HR0.out HC0.out HR1.out HC1.out HL.out).mono ?_); rintro e w1 ⟨v0, rfl, ho, hb⟩; obtain ⟨Ao, co, eo⟩ := Kd.R_slice ho; subst eo; have HO := Aside0.mk (Kd.R_reads' ho).2.2; clear ho; have HB1 := Aside0.mk hb; clear hb))
  go_loopg [9] k (fun kq v9 w' => ∃ (i : Int), v9 = .int .i64 i ∧ Aside0 (valid_Graph.p3 kq l0 l1 xs i = some r) ∧ Aside0 (kq ≤ k) ∧ Aside0 (Below w1.heap.size w1 w'))
  case atStart => exact ⟨0, rfl, H', ⟨Nat.le_refl _⟩, ⟨Below.refl _ _⟩⟩
  case round =>
    clear H' hx0 hx1
    obtain ⟨i, rfl, HA, HK1, HB⟩ := hrel
    cases gk with
    | zero => exact absurd HA.out (by simp [valid_Graph.p3])
    | succ k1 =>
      have H := HA.out
      clear HA
      simp only [valid_Graph.p3] at H
      by_cases c6 : i < (xs.length : Int)
      · rw [if_pos c6] at H
        by_cases c7 : 0 ≤ i
        · rw [if_pos c7] at H
          have c6b0 : decide (i < (xs.length : Int)) = true := decide_eq_true c6
          have c7b0 : decide (0 ≤ i) = true := decide_eq_true c7
          obtain ⟨ad, e168, hx0, hx1⟩ := at_T47 HO.out i c7 c6
          cases e168
          replace hx0 := (HB.out.cell (World.block_lt_of_cell? w1 _ hx0)).trans hx0
          replace hx1 := (HB.out.cell (World.block_lt_of_cell? w1 _ hx1)).trans hx1
          replace c6 := eq_true c6
          replace c7 := eq_true c7
          obtain ⟨W0, hW0⟩ : ∃ W0 : World, W0 = wr.alloc (.cells #[.int .i64 (rd_T47 xs i).f0, .int .i64 (rd_T47 xs i).f1] 47) := ⟨_, rfl⟩
          have HB0 := Aside0.mk (show Below w.heap.size w W0 from by rw [hW0]; exact below_alloc (below_step HB1.out HB.out) _)
          have HBw := Aside0.mk (show Below w1.heap.size w1 W0 from by rw [hW0]; exact below_alloc HB.out _)
          have BG := Aside0.mk (blk_below HG.out HB0.out)
          have BGB := Aside0.mk (blk_below HGB.out HB0.out)
          have BGE := Aside0.mk (blk_below HGE.out HB0.out)
          have BE := Aside0.mk (show W0.heap[wr.heap.size]? = some (.cells #[.int .i64 (rd_T47 xs i).f0, .int .i64 (rd_T47 xs i).f1] 47 (0, 0)) from by rw [hW0]; exact blk_new _ _)
          have HW := Aside0.mk hW0
          clear hW0
          by_cases cp : (rd_T47 xs i).f1 = -1
          · rw [if_pos cp] at H
            have H' := Aside0.mk H
            clear H
            have cpb : ((rd_T47 xs i).f1 != -1) = false := bne_eq_false_iff_eq.mpr cp
            have cpb2 : ((rd_T47 xs i).f1 == -1) = true := beq_iff_eq.mpr cp
            have hb1 : W0.cell? ⟨wr.heap.size, 1, none⟩ = some (.int .i64 (rd_T47 xs i).f1) := (blk_cell BE.out 1).trans rfl
            clear cp
            go_wp2_with (fail)
            rw [← HW.out]
            go_quiet (fail)
            go_wp2
            go_roundg k1
            case measure => have := HK1.out; omega
            case rel => exact ⟨_, rfl, H', ⟨by have := HK1.out; omega⟩, ⟨pw_below_drewN HBw.out _⟩⟩
          · rw [if_neg cp] at H
            have cpb : ((rd_T47 xs i).f1 != -1) = true := bne_iff_ne.mpr cp
            have cpb2 : ((rd_T47 xs i).f1 == -1) = false := beq_eq_false_iff_ne.mpr cp
            clear cp
            have hb : 0 ≤ (rd_T47 xs i).f0 ∧ (rd_T47 xs i).f0 < (l0.length : Int) := by
              rcases Classical.em (0 ≤ (rd_T47 xs i).f0 ∧ (rd_T47 xs i).f0 < (l0.length : Int)) with c | c
              · exact c
              · rw [if_neg c] at H; cases H
            rw [if_pos hb] at H
            obtain ⟨p, hp, H⟩ := Option.bind_eq_some_iff.mp H
            have HP := Aside0.mk hp
            clear hp
            obtain ⟨b, h1, H⟩ := Option.bind_eq_some_iff.mp H
            have H1 := Aside0.mk h1
            have HH := Aside0.mk H
            clear h1 H
            have HRe := Aside0.mk (HR1.out)
            obtain ⟨an, ea, hn0, hn1, hn2, hn3⟩ := at_T23 (Kd.C_below HR0.out HB0.out) (rd_T47 xs i).f0 hb.1 hb.2
            cases ea
            have HRn := Aside0.mk (HR0.out)
            have p0 : (0 ≤ (rd_T47 xs i).f0) = True := eq_true hb.1
            have p1 : ((rd_T47 xs i).f0 < (l0.length : Int)) = True := eq_true hb.2
            have p0b : decide (0 ≤ (rd_T47 xs i).f0) = true := decide_eq_true hb.1
            have p1b : decide ((rd_T47 xs i).f0 < (l0.length : Int)) = true := decide_eq_true hb.2
            clear hb
            have hb0 : W0.cell? ⟨wr.heap.size, 0, none⟩ = some (.int .i64 (rd_T47 xs i).f0) := (blk_cell BE.out 0).trans rfl
            have hb1 : W0.cell? ⟨wr.heap.size, 1, none⟩ = some (.int .i64 (rd_T47 xs i).f1) := (blk_cell BE.out 1).trans rfl
            have hg0 : W0.cell? ⟨g, 0, none⟩ = some (.slice (some an) l0.length c0) := (blk_cell BG.out 0).trans rfl
            have hg1 : W0.cell? ⟨g, 1, none⟩ = some (.slice A1 l1.length c1) := (blk_cell BG.out 1).trans rfl
            have hf0 : W0.cell? ⟨gb, 0, none⟩ = some (.func (.func 57) #[] #[]) := (blk_cell BGB.out 0).trans rfl
            cases b with
            | true =>
              have H : some true = some r := by simpa using HH.out
              obtain rfl := Option.some.inj H
              clear H HH
              go_wp2_with (fail)
              rw [← HW.out]
              go_region_held3 (fun w' => w'.cell? ⟨g, 0, none⟩ = some (.slice (some an) l0.length c0) ∧ w'.cell? ⟨g, 1, none⟩ = some (.slice A1 l1.length c1) ∧ w'.cell? ⟨wr.heap.size, 0, none⟩ = some (.int .i64 (rd_T47 xs i).f0) ∧ w'.cell? ⟨wr.heap.size, 1, none⟩ = some (.int .i64 (rd_T47 xs i).f1) ∧ w'.cell? (an.add ((rd_T47 xs i).f0.toNat * 4)) = some (.int .i64 (rd_T23 l0 (rd_T47 xs i).f0).f0) ∧ w'.cell? ⟨(an.add ((rd_T47 xs i).f0.toNat * 4)).block, (an.add ((rd_T47 xs i).f0.toNat * 4)).off + 1, none⟩ = some (.int .i64 (rd_T23 l0 (rd_T47 xs i).f0).f1) ∧ w'.cell? ⟨(an.add ((rd_T47 xs i).f0.toNat * 4)).block, (an.add ((rd_T47 xs i).f0.toNat * 4)).off + 2, none⟩ = some (.int .i64 (rd_T23 l0 (rd_T47 xs i).f0).f2) ∧ w'.cell? ⟨(an.add ((rd_T47 xs i).f0.toNat * 4)).block, (an.add ((rd_T47 xs i).f0.toNat * 4)).off + 3, none⟩ = some (.int .i64 (rd_T23 l0 (rd_T47 xs i).f0).f3) ∧ w'.cell? ⟨gb, 0, none⟩ = some (.func (.func 57) #[] #[])) (go_keep)
                (first
                  | (go_at_call 53; (with_reducible refine (graph_Prev.calls k1 (some an) c0 l0 A1 c1 l1 (rd_T47 xs i).f0 (rd_T47 xs i).f1 p _ (Kd.C_below HRn.out (below_drew HB0.out)) HC0.out (Kd.C_below HRe.out (below_drew HB0.out)) HC1.out HP.out).mono ?_); rintro e w2 ⟨v0, rfl, ho, hb⟩; obtain ⟨Ap, cp, eo⟩ := Kd.R_slice ho; subst eo; have HPR := Aside0.mk (Kd.R_reads' ho).2.2; clear ho; have q_g0 := (hb.cell (World.block_lt_of_cell? _ _ (show W0.drew.cell? _ = _ from hg0))).trans hg0; have q_g1 := (hb.cell (World.block_lt_of_cell? _ _ (show W0.drew.cell? _ = _ from hg1))).trans hg1; have q_b0 := (hb.cell (World.block_lt_of_cell? _ _ (show W0.drew.cell? _ = _ from hb0))).trans hb0; have q_b1 := (hb.cell (World.block_lt_of_cell? _ _ (show W0.drew.cell? _ = _ from hb1))).trans hb1; have q_n0 := (hb.cell (World.block_lt_of_cell? _ _ (show W0.drew.cell? _ = _ from hn0))).trans hn0; have q_n1 := (hb.cell (World.block_lt_of_cell? _ _ (show W0.drew.cell? _ = _ from hn1))).trans hn1; have q_n2 := (hb.cell (World.block_lt_of_cell? _ _ (show W0.drew.cell? _ = _ from hn2))).trans hn2; have q_n3 := (hb.cell (World.block_lt_of_cell? _ _ (show W0.drew.cell? _ = _ from hn3))).trans hn3; have q_f0 := (hb.cell (World.block_lt_of_cell? _ _ (show W0.drew.cell? _ = _ from hf0))).trans hf0; have HB2 := Aside0.mk (below_step (below_drew HB0.out) hb); have HX2 := Aside0.mk (below_step (below_drew HBw.out) hb); have BG2 := Aside0.mk (blk_below (blk_drew BG.out) hb); have BE2 := Aside0.mk (blk_below (blk_drew BGE.out) hb); clear hb)
                  | (go_at_call 57; (with_reducible refine (valid_Graph.bad3_calls (rd_T23 l0 (rd_T47 xs i).f0).f0 (rd_T23 l0 (rd_T47 xs i).f0).f1 (rd_T23 l0 (rd_T47 xs i).f0).f2 (rd_T23 l0 (rd_T47 xs i).f0).f3 Ap cp p true _  H1.out).mono ?_); rintro e w3 ⟨rfl, hb⟩; have r_g0 := (hb.cell (World.block_lt_of_cell? _ _ q_g0)).trans q_g0; have r_g1 := (hb.cell (World.block_lt_of_cell? _ _ q_g1)).trans q_g1; have r_b0 := (hb.cell (World.block_lt_of_cell? _ _ q_b0)).trans q_b0; have r_b1 := (hb.cell (World.block_lt_of_cell? _ _ q_b1)).trans q_b1; have r_n0 := (hb.cell (World.block_lt_of_cell? _ _ q_n0)).trans q_n0; have r_n1 := (hb.cell (World.block_lt_of_cell? _ _ q_n1)).trans q_n1; have r_n2 := (hb.cell (World.block_lt_of_cell? _ _ q_n2)).trans q_n2; have r_n3 := (hb.cell (World.block_lt_of_cell? _ _ q_n3)).trans q_n3; have r_f0 := (hb.cell (World.block_lt_of_cell? _ _ q_f0)).trans q_f0; have HB3 := Aside0.mk (below_step HB2.out hb); have HBx := Aside0.mk (below_step HX2.out hb); have BE3 := Aside0.mk (blk_below BE2.out hb); clear hb))

              have he0 : w3.cell? ⟨ge, 0, none⟩ = some (.int .i64 13) := (blk_cell BE3.out 0).trans rfl
              go_wp2
              go_ret
              exact ⟨rfl, HB3.out⟩
            | false =>
              have H' := Aside0.mk (show valid_Graph.p3 k1 l0 l1 xs (wrap64 (i + 1)) = some r from by simpa using HH.out)
              clear HH
              go_wp2_with (fail)
              rw [← HW.out]
              go_region_held3 (fun w' => w'.cell? ⟨g, 0, none⟩ = some (.slice (some an) l0.length c0) ∧ w'.cell? ⟨g, 1, none⟩ = some (.slice A1 l1.length c1) ∧ w'.cell? ⟨wr.heap.size, 0, none⟩ = some (.int .i64 (rd_T47 xs i).f0) ∧ w'.cell? ⟨wr.heap.size, 1, none⟩ = some (.int .i64 (rd_T47 xs i).f1) ∧ w'.cell? (an.add ((rd_T47 xs i).f0.toNat * 4)) = some (.int .i64 (rd_T23 l0 (rd_T47 xs i).f0).f0) ∧ w'.cell? ⟨(an.add ((rd_T47 xs i).f0.toNat * 4)).block, (an.add ((rd_T47 xs i).f0.toNat * 4)).off + 1, none⟩ = some (.int .i64 (rd_T23 l0 (rd_T47 xs i).f0).f1) ∧ w'.cell? ⟨(an.add ((rd_T47 xs i).f0.toNat * 4)).block, (an.add ((rd_T47 xs i).f0.toNat * 4)).off + 2, none⟩ = some (.int .i64 (rd_T23 l0 (rd_T47 xs i).f0).f2) ∧ w'.cell? ⟨(an.add ((rd_T47 xs i).f0.toNat * 4)).block, (an.add ((rd_T47 xs i).f0.toNat * 4)).off + 3, none⟩ = some (.int .i64 (rd_T23 l0 (rd_T47 xs i).f0).f3) ∧ w'.cell? ⟨gb, 0, none⟩ = some (.func (.func 57) #[] #[])) (go_keep)
                (first
                  | (go_at_call 53; (with_reducible refine (graph_Prev.calls k1 (some an) c0 l0 A1 c1 l1 (rd_T47 xs i).f0 (rd_T47 xs i).f1 p _ (Kd.C_below HRn.out (below_drew HB0.out)) HC0.out (Kd.C_below HRe.out (below_drew HB0.out)) HC1.out HP.out).mono ?_); rintro e w2 ⟨v0, rfl, ho, hb⟩; obtain ⟨Ap, cp, eo⟩ := Kd.R_slice ho; subst eo; have HPR := Aside0.mk (Kd.R_reads' ho).2.2; clear ho; have q_g0 := (hb.cell (World.block_lt_of_cell? _ _ (show W0.drew.cell? _ = _ from hg0))).trans hg0; have q_g1 := (hb.cell (World.block_lt_of_cell? _ _ (show W0.drew.cell? _ = _ from hg1))).trans hg1; have q_b0 := (hb.cell (World.block_lt_of_cell? _ _ (show W0.drew.cell? _ = _ from hb0))).trans hb0; have q_b1 := (hb.cell (World.block_lt_of_cell? _ _ (show W0.drew.cell? _ = _ from hb1))).trans hb1; have q_n0 := (hb.cell (World.block_lt_of_cell? _ _ (show W0.drew.cell? _ = _ from hn0))).trans hn0; have q_n1 := (hb.cell (World.block_lt_of_cell? _ _ (show W0.drew.cell? _ = _ from hn1))).trans hn1; have q_n2 := (hb.cell (World.block_lt_of_cell? _ _ (show W0.drew.cell? _ = _ from hn2))).trans hn2; have q_n3 := (hb.cell (World.block_lt_of_cell? _ _ (show W0.drew.cell? _ = _ from hn3))).trans hn3; have q_f0 := (hb.cell (World.block_lt_of_cell? _ _ (show W0.drew.cell? _ = _ from hf0))).trans hf0; have HB2 := Aside0.mk (below_step (below_drew HB0.out) hb); have HX2 := Aside0.mk (below_step (below_drew HBw.out) hb); have BG2 := Aside0.mk (blk_below (blk_drew BG.out) hb); have BE2 := Aside0.mk (blk_below (blk_drew BGE.out) hb); clear hb)
                  | (go_at_call 57; (with_reducible refine (valid_Graph.bad3_calls (rd_T23 l0 (rd_T47 xs i).f0).f0 (rd_T23 l0 (rd_T47 xs i).f0).f1 (rd_T23 l0 (rd_T47 xs i).f0).f2 (rd_T23 l0 (rd_T47 xs i).f0).f3 Ap cp p false _  H1.out).mono ?_); rintro e w3 ⟨rfl, hb⟩; have r_g0 := (hb.cell (World.block_lt_of_cell? _ _ q_g0)).trans q_g0; have r_g1 := (hb.cell (World.block_lt_of_cell? _ _ q_g1)).trans q_g1; have r_b0 := (hb.cell (World.block_lt_of_cell? _ _ q_b0)).trans q_b0; have r_b1 := (hb.cell (World.block_lt_of_cell? _ _ q_b1)).trans q_b1; have r_n0 := (hb.cell (World.block_lt_of_cell? _ _ q_n0)).trans q_n0; have r_n1 := (hb.cell (World.block_lt_of_cell? _ _ q_n1)).trans q_n1; have r_n2 := (hb.cell (World.block_lt_of_cell? _ _ q_n2)).trans q_n2; have r_n3 := (hb.cell (World.block_lt_of_cell? _ _ q_n3)).trans q_n3; have r_f0 := (hb.cell (World.block_lt_of_cell? _ _ q_f0)).trans q_f0; have HB3 := Aside0.mk (below_step HB2.out hb); have HBx := Aside0.mk (below_step HX2.out hb); have BE3 := Aside0.mk (blk_below BE2.out hb); clear hb))

              go_wp2
              go_roundg k1
              case measure => have := HK1.out; omega
              case rel => exact ⟨_, rfl, H', ⟨by have := HK1.out; omega⟩, HBx⟩
        · rw [if_neg c7] at H
          exact absurd H (by simp)
      · rw [if_neg c6] at H
        obtain rfl := Option.some.inj H
        have c6b0 : decide (i < (xs.length : Int)) = false := decide_eq_false c6
        clear c6
        go_wp2
        go_ret
        exact ⟨rfl, below_step HB1.out HB.out⟩
set_option maxHeartbeats 16000000 in
set_option maxRecDepth 100000 in
theorem valid_Graph.p4_calls (k : Nat) (A0 : Option Addr) (c0 : Nat) (l0 : List (S23)) (A1 : Option Addr) (c1 : Nat) (l1 : List (S36)) (xs : List (S47)) (g gb ge : Nat) (r : Bool) (w : World)
    (hr0 : Kd.C k23 w A0 l0.length l0) (hc0 : l0.length ≤ c0) (hr1 : Kd.C k36 w A1 l1.length l1) (hc1 : l1.length ≤ c1)
    (hg : w.heap[g]? = some (.cells #[.slice A0 l0.length c0, .slice A1 l1.length c1] 29 (0, 0))) (hgb : w.heap[gb]? = some (.cells #[.func (.func 58) #[] #[.pointer (some ⟨g, 0, none⟩)]] 72 (0, 0))) (hge : w.heap[ge]? = some (.cells #[.int .i64 15] 31 (0, 0)))
    (hl : graph_Locs.f k l0 l1 = some xs) (h : valid_Graph.p4 k l0 l1 xs 0 = some r) :
    Calls Try.prog 51 #[.pointer (some ⟨g, 0, none⟩), .pointer (some ⟨gb, 0, none⟩), .pointer (some ⟨ge, 0, none⟩)] w fun e w' => e = .returned (.int .i64 (if r = true then 15 else 0)) ∧ Below w.heap.size w w' := by
  have hu1 := Try.underlying29
  have hu2 := Try.underlying47
  have hu3 := Try.underlying72
  have hu4 := Try.underlying31
  have hu5 := Try.underlying23
  have HR0 := Aside0.mk hr0
  have HC0 := Aside0.mk hc0
  have HR1 := Aside0.mk hr1
  have HC1 := Aside0.mk hc1
  have HG := Aside0.mk hg
  have HGB := Aside0.mk hgb
  have HGE := Aside0.mk hge
  have H' := Aside0.mk h
  have HL := Aside0.mk hl
  have hx0 : w.cell? ⟨g, 0, none⟩ = some (.slice A0 l0.length c0) := (blk_cell hg 0).trans rfl
  have hx1 : w.cell? ⟨g, 1, none⟩ = some (.slice A1 l1.length c1) := (blk_cell hg 1).trans rfl
  clear hr0 hc0 hr1 hc1 hg hgb hge h hl
  go_enter Try.func51, Try.ntmps51
  go_wp2_with (first | (go_at_call 52; (with_reducible refine (graph_Locs.calls k A0 c0 l0 A1 c1 l1 xs _ HR0.out HC0.out HR1.out HC1.out HL.out).mono ?_); rintro e w1 ⟨v0, rfl, ho, hb⟩; obtain ⟨Ao, co, eo⟩ := Kd.R_slice ho; subst eo; have HO := Aside0.mk (Kd.R_reads' ho).2.2; clear ho; have HB1 := Aside0.mk hb; clear hb))
  go_loopg [9] k (fun kq v9 w' => ∃ (i : Int), v9 = .int .i64 i ∧ Aside0 (valid_Graph.p4 kq l0 l1 xs i = some r) ∧ Aside0 (kq ≤ k) ∧ Aside0 (Below w1.heap.size w1 w'))
  case atStart => exact ⟨0, rfl, H', ⟨Nat.le_refl _⟩, ⟨Below.refl _ _⟩⟩
  case round =>
    clear H' hx0 hx1
    obtain ⟨i, rfl, HA, HK1, HB⟩ := hrel
    cases gk with
    | zero => exact absurd HA.out (by simp [valid_Graph.p4])
    | succ k1 =>
      have H := HA.out
      clear HA
      simp only [valid_Graph.p4] at H
      by_cases c6 : i < (xs.length : Int)
      · rw [if_pos c6] at H
        by_cases c7 : 0 ≤ i
        · rw [if_pos c7] at H
          have c6b0 : decide (i < (xs.length : Int)) = true := decide_eq_true c6
          have c7b0 : decide (0 ≤ i) = true := decide_eq_true c7
          obtain ⟨ad, e168, hx0, hx1⟩ := at_T47 HO.out i c7 c6
          cases e168
          replace hx0 := (HB.out.cell (World.block_lt_of_cell? w1 _ hx0)).trans hx0
          replace hx1 := (HB.out.cell (World.block_lt_of_cell? w1 _ hx1)).trans hx1
          replace c6 := eq_true c6
          replace c7 := eq_true c7
          obtain ⟨W0, hW0⟩ : ∃ W0 : World, W0 = wr.alloc (.cells #[.int .i64 (rd_T47 xs i).f0, .int .i64 (rd_T47 xs i).f1] 47) := ⟨_, rfl⟩
          have HB0 := Aside0.mk (show Below w.heap.size w W0 from by rw [hW0]; exact below_alloc (below_step HB1.out HB.out) _)
          have HBw := Aside0.mk (show Below w1.heap.size w1 W0 from by rw [hW0]; exact below_alloc HB.out _)
          have BG := Aside0.mk (blk_below HG.out HB0.out)
          have BGB := Aside0.mk (blk_below HGB.out HB0.out)
          have BGE := Aside0.mk (blk_below HGE.out HB0.out)
          have BE := Aside0.mk (show W0.heap[wr.heap.size]? = some (.cells #[.int .i64 (rd_T47 xs i).f0, .int .i64 (rd_T47 xs i).f1] 47 (0, 0)) from by rw [hW0]; exact blk_new _ _)
          have HW := Aside0.mk hW0
          clear hW0
          by_cases cp : (rd_T47 xs i).f1 = -1
          · rw [if_pos cp] at H
            have H' := Aside0.mk H
            clear H
            have cpb : ((rd_T47 xs i).f1 != -1) = false := bne_eq_false_iff_eq.mpr cp
            have cpb2 : ((rd_T47 xs i).f1 == -1) = true := beq_iff_eq.mpr cp
            have hb1 : W0.cell? ⟨wr.heap.size, 1, none⟩ = some (.int .i64 (rd_T47 xs i).f1) := (blk_cell BE.out 1).trans rfl
            clear cp
            go_wp2_with (fail)
            rw [← HW.out]
            go_quiet (fail)
            go_wp2
            go_roundg k1
            case measure => have := HK1.out; omega
            case rel => exact ⟨_, rfl, H', ⟨by have := HK1.out; omega⟩, ⟨pw_below_drewN HBw.out _⟩⟩
          · rw [if_neg cp] at H
            have cpb : ((rd_T47 xs i).f1 != -1) = true := bne_iff_ne.mpr cp
            have cpb2 : ((rd_T47 xs i).f1 == -1) = false := beq_eq_false_iff_ne.mpr cp
            clear cp
            have hb : 0 ≤ (rd_T47 xs i).f0 ∧ (rd_T47 xs i).f0 < (l0.length : Int) := by
              rcases Classical.em (0 ≤ (rd_T47 xs i).f0 ∧ (rd_T47 xs i).f0 < (l0.length : Int)) with c | c
              · exact c
              · rw [if_neg c] at H; cases H
            rw [if_pos hb] at H
            obtain ⟨p, hp, H⟩ := Option.bind_eq_some_iff.mp H
            have HP := Aside0.mk hp
            clear hp
            obtain ⟨b, h1, H⟩ := Option.bind_eq_some_iff.mp H
            have H1 := Aside0.mk h1
            have HH := Aside0.mk H
            clear h1 H
            have HRe := Aside0.mk (HR1.out)
            obtain ⟨an, ea, hn0, hn1, hn2, hn3⟩ := at_T23 (Kd.C_below HR0.out HB0.out) (rd_T47 xs i).f0 hb.1 hb.2
            cases ea
            have HRn := Aside0.mk (HR0.out)
            have p0 : (0 ≤ (rd_T47 xs i).f0) = True := eq_true hb.1
            have p1 : ((rd_T47 xs i).f0 < (l0.length : Int)) = True := eq_true hb.2
            have p0b : decide (0 ≤ (rd_T47 xs i).f0) = true := decide_eq_true hb.1
            have p1b : decide ((rd_T47 xs i).f0 < (l0.length : Int)) = true := decide_eq_true hb.2
            clear hb
            have hb0 : W0.cell? ⟨wr.heap.size, 0, none⟩ = some (.int .i64 (rd_T47 xs i).f0) := (blk_cell BE.out 0).trans rfl
            have hb1 : W0.cell? ⟨wr.heap.size, 1, none⟩ = some (.int .i64 (rd_T47 xs i).f1) := (blk_cell BE.out 1).trans rfl
            have hg0 : W0.cell? ⟨g, 0, none⟩ = some (.slice (some an) l0.length c0) := (blk_cell BG.out 0).trans rfl
            have hg1 : W0.cell? ⟨g, 1, none⟩ = some (.slice A1 l1.length c1) := (blk_cell BG.out 1).trans rfl
            have hf0 : W0.cell? ⟨gb, 0, none⟩ = some (.func (.func 58) #[] #[.pointer (some ⟨g, 0, none⟩)]) := (blk_cell BGB.out 0).trans rfl
            cases b with
            | true =>
              have H : some true = some r := by simpa using HH.out
              obtain rfl := Option.some.inj H
              clear H HH
              go_wp2_with (fail)
              rw [← HW.out]
              go_region_held3 (fun w' => w'.cell? ⟨g, 0, none⟩ = some (.slice (some an) l0.length c0) ∧ w'.cell? ⟨g, 1, none⟩ = some (.slice A1 l1.length c1) ∧ w'.cell? ⟨wr.heap.size, 0, none⟩ = some (.int .i64 (rd_T47 xs i).f0) ∧ w'.cell? ⟨wr.heap.size, 1, none⟩ = some (.int .i64 (rd_T47 xs i).f1) ∧ w'.cell? (an.add ((rd_T47 xs i).f0.toNat * 4)) = some (.int .i64 (rd_T23 l0 (rd_T47 xs i).f0).f0) ∧ w'.cell? ⟨(an.add ((rd_T47 xs i).f0.toNat * 4)).block, (an.add ((rd_T47 xs i).f0.toNat * 4)).off + 1, none⟩ = some (.int .i64 (rd_T23 l0 (rd_T47 xs i).f0).f1) ∧ w'.cell? ⟨(an.add ((rd_T47 xs i).f0.toNat * 4)).block, (an.add ((rd_T47 xs i).f0.toNat * 4)).off + 2, none⟩ = some (.int .i64 (rd_T23 l0 (rd_T47 xs i).f0).f2) ∧ w'.cell? ⟨(an.add ((rd_T47 xs i).f0.toNat * 4)).block, (an.add ((rd_T47 xs i).f0.toNat * 4)).off + 3, none⟩ = some (.int .i64 (rd_T23 l0 (rd_T47 xs i).f0).f3) ∧ w'.cell? ⟨gb, 0, none⟩ = some (.func (.func 58) #[] #[.pointer (some ⟨g, 0, none⟩)])) (go_keep)
                (first
                  | (go_at_call 53; (with_reducible refine (graph_Prev.calls k1 (some an) c0 l0 A1 c1 l1 (rd_T47 xs i).f0 (rd_T47 xs i).f1 p _ (Kd.C_below HRn.out (below_drew HB0.out)) HC0.out (Kd.C_below HRe.out (below_drew HB0.out)) HC1.out HP.out).mono ?_); rintro e w2 ⟨v0, rfl, ho, hb⟩; obtain ⟨Ap, cp, eo⟩ := Kd.R_slice ho; subst eo; have HPR := Aside0.mk (Kd.R_reads' ho).2.2; clear ho; have q_g0 := (hb.cell (World.block_lt_of_cell? _ _ (show W0.drew.cell? _ = _ from hg0))).trans hg0; have q_g1 := (hb.cell (World.block_lt_of_cell? _ _ (show W0.drew.cell? _ = _ from hg1))).trans hg1; have q_b0 := (hb.cell (World.block_lt_of_cell? _ _ (show W0.drew.cell? _ = _ from hb0))).trans hb0; have q_b1 := (hb.cell (World.block_lt_of_cell? _ _ (show W0.drew.cell? _ = _ from hb1))).trans hb1; have q_n0 := (hb.cell (World.block_lt_of_cell? _ _ (show W0.drew.cell? _ = _ from hn0))).trans hn0; have q_n1 := (hb.cell (World.block_lt_of_cell? _ _ (show W0.drew.cell? _ = _ from hn1))).trans hn1; have q_n2 := (hb.cell (World.block_lt_of_cell? _ _ (show W0.drew.cell? _ = _ from hn2))).trans hn2; have q_n3 := (hb.cell (World.block_lt_of_cell? _ _ (show W0.drew.cell? _ = _ from hn3))).trans hn3; have q_f0 := (hb.cell (World.block_lt_of_cell? _ _ (show W0.drew.cell? _ = _ from hf0))).trans hf0; have HB2 := Aside0.mk (below_step (below_drew HB0.out) hb); have HX2 := Aside0.mk (below_step (below_drew HBw.out) hb); have BG2 := Aside0.mk (blk_below (blk_drew BG.out) hb); have BE2 := Aside0.mk (blk_below (blk_drew BGE.out) hb); clear hb)
                  | (go_at_call 58; (with_reducible refine (valid_Graph.bad4_calls (some an) c0 l0 A1 c1 l1 (rd_T23 l0 (rd_T47 xs i).f0).f0 (rd_T23 l0 (rd_T47 xs i).f0).f1 (rd_T23 l0 (rd_T47 xs i).f0).f2 (rd_T23 l0 (rd_T47 xs i).f0).f3 Ap cp p g true _ (Kd.C_below HRn.out HB2.out) HPR.out BG2.out H1.out).mono ?_); rintro e w3 ⟨rfl, hb⟩; have r_g0 := (hb.cell (World.block_lt_of_cell? _ _ q_g0)).trans q_g0; have r_g1 := (hb.cell (World.block_lt_of_cell? _ _ q_g1)).trans q_g1; have r_b0 := (hb.cell (World.block_lt_of_cell? _ _ q_b0)).trans q_b0; have r_b1 := (hb.cell (World.block_lt_of_cell? _ _ q_b1)).trans q_b1; have r_n0 := (hb.cell (World.block_lt_of_cell? _ _ q_n0)).trans q_n0; have r_n1 := (hb.cell (World.block_lt_of_cell? _ _ q_n1)).trans q_n1; have r_n2 := (hb.cell (World.block_lt_of_cell? _ _ q_n2)).trans q_n2; have r_n3 := (hb.cell (World.block_lt_of_cell? _ _ q_n3)).trans q_n3; have r_f0 := (hb.cell (World.block_lt_of_cell? _ _ q_f0)).trans q_f0; have HB3 := Aside0.mk (below_step HB2.out hb); have HBx := Aside0.mk (below_step HX2.out hb); have BE3 := Aside0.mk (blk_below BE2.out hb); clear hb))

              have he0 : w3.cell? ⟨ge, 0, none⟩ = some (.int .i64 15) := (blk_cell BE3.out 0).trans rfl
              go_wp2
              go_ret
              exact ⟨rfl, HB3.out⟩
            | false =>
              have H' := Aside0.mk (show valid_Graph.p4 k1 l0 l1 xs (wrap64 (i + 1)) = some r from by simpa using HH.out)
              clear HH
              go_wp2_with (fail)
              rw [← HW.out]
              go_region_held3 (fun w' => w'.cell? ⟨g, 0, none⟩ = some (.slice (some an) l0.length c0) ∧ w'.cell? ⟨g, 1, none⟩ = some (.slice A1 l1.length c1) ∧ w'.cell? ⟨wr.heap.size, 0, none⟩ = some (.int .i64 (rd_T47 xs i).f0) ∧ w'.cell? ⟨wr.heap.size, 1, none⟩ = some (.int .i64 (rd_T47 xs i).f1) ∧ w'.cell? (an.add ((rd_T47 xs i).f0.toNat * 4)) = some (.int .i64 (rd_T23 l0 (rd_T47 xs i).f0).f0) ∧ w'.cell? ⟨(an.add ((rd_T47 xs i).f0.toNat * 4)).block, (an.add ((rd_T47 xs i).f0.toNat * 4)).off + 1, none⟩ = some (.int .i64 (rd_T23 l0 (rd_T47 xs i).f0).f1) ∧ w'.cell? ⟨(an.add ((rd_T47 xs i).f0.toNat * 4)).block, (an.add ((rd_T47 xs i).f0.toNat * 4)).off + 2, none⟩ = some (.int .i64 (rd_T23 l0 (rd_T47 xs i).f0).f2) ∧ w'.cell? ⟨(an.add ((rd_T47 xs i).f0.toNat * 4)).block, (an.add ((rd_T47 xs i).f0.toNat * 4)).off + 3, none⟩ = some (.int .i64 (rd_T23 l0 (rd_T47 xs i).f0).f3) ∧ w'.cell? ⟨gb, 0, none⟩ = some (.func (.func 58) #[] #[.pointer (some ⟨g, 0, none⟩)])) (go_keep)
                (first
                  | (go_at_call 53; (with_reducible refine (graph_Prev.calls k1 (some an) c0 l0 A1 c1 l1 (rd_T47 xs i).f0 (rd_T47 xs i).f1 p _ (Kd.C_below HRn.out (below_drew HB0.out)) HC0.out (Kd.C_below HRe.out (below_drew HB0.out)) HC1.out HP.out).mono ?_); rintro e w2 ⟨v0, rfl, ho, hb⟩; obtain ⟨Ap, cp, eo⟩ := Kd.R_slice ho; subst eo; have HPR := Aside0.mk (Kd.R_reads' ho).2.2; clear ho; have q_g0 := (hb.cell (World.block_lt_of_cell? _ _ (show W0.drew.cell? _ = _ from hg0))).trans hg0; have q_g1 := (hb.cell (World.block_lt_of_cell? _ _ (show W0.drew.cell? _ = _ from hg1))).trans hg1; have q_b0 := (hb.cell (World.block_lt_of_cell? _ _ (show W0.drew.cell? _ = _ from hb0))).trans hb0; have q_b1 := (hb.cell (World.block_lt_of_cell? _ _ (show W0.drew.cell? _ = _ from hb1))).trans hb1; have q_n0 := (hb.cell (World.block_lt_of_cell? _ _ (show W0.drew.cell? _ = _ from hn0))).trans hn0; have q_n1 := (hb.cell (World.block_lt_of_cell? _ _ (show W0.drew.cell? _ = _ from hn1))).trans hn1; have q_n2 := (hb.cell (World.block_lt_of_cell? _ _ (show W0.drew.cell? _ = _ from hn2))).trans hn2; have q_n3 := (hb.cell (World.block_lt_of_cell? _ _ (show W0.drew.cell? _ = _ from hn3))).trans hn3; have q_f0 := (hb.cell (World.block_lt_of_cell? _ _ (show W0.drew.cell? _ = _ from hf0))).trans hf0; have HB2 := Aside0.mk (below_step (below_drew HB0.out) hb); have HX2 := Aside0.mk (below_step (below_drew HBw.out) hb); have BG2 := Aside0.mk (blk_below (blk_drew BG.out) hb); have BE2 := Aside0.mk (blk_below (blk_drew BGE.out) hb); clear hb)
                  | (go_at_call 58; (with_reducible refine (valid_Graph.bad4_calls (some an) c0 l0 A1 c1 l1 (rd_T23 l0 (rd_T47 xs i).f0).f0 (rd_T23 l0 (rd_T47 xs i).f0).f1 (rd_T23 l0 (rd_T47 xs i).f0).f2 (rd_T23 l0 (rd_T47 xs i).f0).f3 Ap cp p g false _ (Kd.C_below HRn.out HB2.out) HPR.out BG2.out H1.out).mono ?_); rintro e w3 ⟨rfl, hb⟩; have r_g0 := (hb.cell (World.block_lt_of_cell? _ _ q_g0)).trans q_g0; have r_g1 := (hb.cell (World.block_lt_of_cell? _ _ q_g1)).trans q_g1; have r_b0 := (hb.cell (World.block_lt_of_cell? _ _ q_b0)).trans q_b0; have r_b1 := (hb.cell (World.block_lt_of_cell? _ _ q_b1)).trans q_b1; have r_n0 := (hb.cell (World.block_lt_of_cell? _ _ q_n0)).trans q_n0; have r_n1 := (hb.cell (World.block_lt_of_cell? _ _ q_n1)).trans q_n1; have r_n2 := (hb.cell (World.block_lt_of_cell? _ _ q_n2)).trans q_n2; have r_n3 := (hb.cell (World.block_lt_of_cell? _ _ q_n3)).trans q_n3; have r_f0 := (hb.cell (World.block_lt_of_cell? _ _ q_f0)).trans q_f0; have HB3 := Aside0.mk (below_step HB2.out hb); have HBx := Aside0.mk (below_step HX2.out hb); have BE3 := Aside0.mk (blk_below BE2.out hb); clear hb))

              go_wp2
              go_roundg k1
              case measure => have := HK1.out; omega
              case rel => exact ⟨_, rfl, H', ⟨by have := HK1.out; omega⟩, HBx⟩
        · rw [if_neg c7] at H
          exact absurd H (by simp)
      · rw [if_neg c6] at H
        obtain rfl := Option.some.inj H
        have c6b0 : decide (i < (xs.length : Int)) = false := decide_eq_false c6
        clear c6
        go_wp2
        go_ret
        exact ⟨rfl, below_step HB1.out HB.out⟩
set_option maxHeartbeats 8000000 in
set_option maxRecDepth 100000 in
theorem valid_Graph.c5_calls (k : Nat) (A0 : Option Addr) (c0 : Nat) (l0 : List (S23)) (A1 : Option Addr) (c1 : Nat) (l1 : List (S36)) (g : Nat) (r : Bool) (w : World)
    (hr0 : Kd.C k23 w A0 l0.length l0) (hc0 : l0.length ≤ c0) (hr1 : Kd.C k36 w A1 l1.length l1) (hc1 : l1.length ≤ c1)
    (hg : w.heap[g]? = some (.cells #[.slice A0 l0.length c0, .slice A1 l1.length c1] 29 (0, 0)))
    (h : valid_Graph.c5 k l0 l1 0 = some r) :
    Calls Try.prog 59 #[.pointer (some ⟨g, 0, none⟩)] w fun e w' => e = .returned (.int .i64 (if r = true then 14 else 0)) ∧ Below w.heap.size w w' := by
  have hu1 := Try.underlying29
  have hu2 := Try.underlying23
  have HR0 := Aside0.mk hr0
  have HC0 := Aside0.mk hc0
  have HR1 := Aside0.mk hr1
  have HC1 := Aside0.mk hc1
  have HG := Aside0.mk hg
  have H' := Aside0.mk h
  have hx0 : w.cell? ⟨g, 0, none⟩ = some (.slice A0 l0.length c0) := (blk_cell hg 0).trans rfl
  clear hr0 hc0 hr1 hc1 hg h
  have HB := Aside0.mk (Below.refl w.heap.size w)
  go_enter Try.func59, Try.ntmps59
  go_wp2_with (fail)
  go_loopg [7] k (fun kq v7 w' => ∃ (i : Int), v7 = .int .i64 i ∧ Aside0 (valid_Graph.c5 kq l0 l1 i = some r) ∧ Aside0 (kq ≤ k) ∧ Aside0 (Below w.heap.size w w'))
  case atStart => exact ⟨0, rfl, H', ⟨Nat.le_refl _⟩, HB⟩
  case round =>
    clear H' HB hx0
    obtain ⟨i, rfl, HA, HK1, HB⟩ := hrel
    cases gk with
    | zero => exact absurd HA.out (by simp [valid_Graph.c5])
    | succ k1 =>
      have H := HA.out
      clear HA
      simp only [valid_Graph.c5] at H
      by_cases c6 : i < (l0.length : Int)
      · rw [if_pos c6] at H
        by_cases c7 : 0 ≤ i
        · rw [if_pos c7] at H
          have c6b0 : decide (i < (l0.length : Int)) = true := decide_eq_true c6
          have c7b0 : decide (0 ≤ i) = true := decide_eq_true c7
          obtain ⟨ad, e168, hn0, hn1, hn2, hn3⟩ := at_T23 HR0.out i c7 c6
          cases e168
          replace hn0 := (HB.out.cell (World.block_lt_of_cell? w _ hn0)).trans hn0
          replace hn1 := (HB.out.cell (World.block_lt_of_cell? w _ hn1)).trans hn1
          replace hn2 := (HB.out.cell (World.block_lt_of_cell? w _ hn2)).trans hn2
          replace hn3 := (HB.out.cell (World.block_lt_of_cell? w _ hn3)).trans hn3
          replace c6 := eq_true c6
          replace c7 := eq_true c7
          have BG := Aside0.mk (blk_below HG.out HB.out)
          have hg0 : wr.cell? ⟨g, 0, none⟩ = some (.slice (some ad) l0.length c0) := (blk_cell BG.out 0).trans rfl
          have hg1 : wr.cell? ⟨g, 1, none⟩ = some (.slice A1 l1.length c1) := (blk_cell BG.out 1).trans rfl
          have lgb : g < wr.heap.size := blk_lt BG.out
          have ngb : (g = wr.heap.size) = False := eq_false (Nat.ne_of_lt (blk_lt BG.out))
          have ngb' : (wr.heap.size = g) = False := eq_false (Nat.ne_of_gt (blk_lt BG.out))
          by_cases cp : (rd_T23 l0 i).f0 = 10
          · rw [if_pos cp] at H
            have H' := Aside0.mk H
            clear H
            have cpb : ((rd_T23 l0 i).f0 != 10) = false := bne_eq_false_iff_eq.mpr cp
            have cpb2 : ((rd_T23 l0 i).f0 == 10) = true := beq_iff_eq.mpr cp
            clear cp
            go_wp2_with (fail)
            go_roundg k1
            case measure => have := HK1.out; omega
            case rel => exact ⟨_, rfl, H', ⟨by have := HK1.out; omega⟩, ⟨below_alloc HB.out _⟩⟩
          · rw [if_neg cp] at H
            have cpb : ((rd_T23 l0 i).f0 != 10) = true := bne_iff_ne.mpr cp
            have cpb2 : ((rd_T23 l0 i).f0 == 10) = false := beq_eq_false_iff_ne.mpr cp
            clear cp
            obtain ⟨b, h1, H⟩ := Option.bind_eq_some_iff.mp H
            have H1 := Aside0.mk h1
            have HH := Aside0.mk H
            clear h1 H
            cases b with
            | true =>
              have H : some true = some r := by simpa using HH.out
              obtain rfl := Option.some.inj H
              clear H HH
              go_wp2_with (first | (go_at_call 60; (with_reducible refine (valid_round.calls k1 (some ad) c0 l0 A1 c1 l1 i true _ (Kd.C_below HR0.out (below_alloc HB.out _)) HC0.out (Kd.C_below HR1.out (below_alloc HB.out _)) HC1.out H1.out).mono ?_); rintro e w1 ⟨rfl, hb⟩; have HB1 := Aside0.mk (below_step (below_alloc HB.out _) hb); clear hb))
              go_ret
              exact ⟨rfl, HB1.out⟩
            | false =>
              have H' := Aside0.mk (show valid_Graph.c5 k1 l0 l1 (wrap64 (i + 1)) = some r from by simpa using HH.out)
              clear HH
              go_wp2_with (first | (go_at_call 60; (with_reducible refine (valid_round.calls k1 (some ad) c0 l0 A1 c1 l1 i false _ (Kd.C_below HR0.out (below_alloc HB.out _)) HC0.out (Kd.C_below HR1.out (below_alloc HB.out _)) HC1.out H1.out).mono ?_); rintro e w1 ⟨rfl, hb⟩; have HB1 := Aside0.mk (below_step (below_alloc HB.out _) hb); clear hb))
              go_roundg k1
              case measure => have := HK1.out; omega
              case rel => exact ⟨_, rfl, H', ⟨by have := HK1.out; omega⟩, HB1⟩
        · rw [if_neg c7] at H
          exact absurd H (by simp)
      · rw [if_neg c6] at H
        obtain rfl := Option.some.inj H
        have c6b0 : decide (i < (l0.length : Int)) = false := decide_eq_false c6
        clear c6
        go_wp2
        go_ret
        exact ⟨rfl, HB.out⟩
set_option maxHeartbeats 8000000 in
set_option maxRecDepth 100000 in
theorem valid_Graph.mk1_calls (c : Int) (B : Fn) (X : Array Value) (g : Nat) (w : World) (hgl : g < w.heap.size) :
    Calls Try.prog 48 #[.int .i64 c, .func B #[] X, .pointer (some ⟨g, 0, none⟩)] w fun e w' => (∃ gb ge : Nat, e = .returned (.func (.func 49) #[] #[.pointer (some ⟨g, 0, none⟩), .pointer (some ⟨gb, 0, none⟩), .pointer (some ⟨ge, 0, none⟩)]) ∧ w'.heap[gb]? = some (.cells #[.func B #[] X] 70 (0, 0)) ∧ w'.heap[ge]? = some (.cells #[.int .i64 c] 31 (0, 0))) ∧ Below w.heap.size w w' := by
  have hu1 := Try.underlying31
  have hu2 := Try.underlying70
  have hmf : ∀ (fn : Fn) (first cap : Array Value) (w : World), (Instr.makeFunc fn first cap).run Try.prog w = .ok (.func fn first cap) w := fun _ _ _ _ => rfl
  have HB := Aside0.mk (Below.refl w.heap.size w)
  go_enter Try.func48, Try.ntmps48
  go_wp2
  go_ret
  have h2 := blk_new (w.alloc (.cells #[.int .i64 c] 31)) (.cells #[.func B #[] X] 70)
  exact ⟨⟨_, _, rfl, by simpa using h2, blk_alloc (blk_new _ _) _⟩, below_alloc (below_alloc HB.out _) _⟩
set_option maxHeartbeats 8000000 in
set_option maxRecDepth 100000 in
theorem valid_Graph.mk2_calls (c : Int) (B : Fn) (X : Array Value) (g : Nat) (w : World) (hgl : g < w.heap.size) :
    Calls Try.prog 50 #[.int .i64 c, .func B #[] X, .pointer (some ⟨g, 0, none⟩)] w fun e w' => (∃ gb ge : Nat, e = .returned (.func (.func 51) #[] #[.pointer (some ⟨g, 0, none⟩), .pointer (some ⟨gb, 0, none⟩), .pointer (some ⟨ge, 0, none⟩)]) ∧ w'.heap[gb]? = some (.cells #[.func B #[] X] 72 (0, 0)) ∧ w'.heap[ge]? = some (.cells #[.int .i64 c] 31 (0, 0))) ∧ Below w.heap.size w w' := by
  have hu1 := Try.underlying31
  have hu2 := Try.underlying72
  have hmf : ∀ (fn : Fn) (first cap : Array Value) (w : World), (Instr.makeFunc fn first cap).run Try.prog w = .ok (.func fn first cap) w := fun _ _ _ _ => rfl
  have HB := Aside0.mk (Below.refl w.heap.size w)
  go_enter Try.func50, Try.ntmps50
  go_wp2
  go_ret
  have h2 := blk_new (w.alloc (.cells #[.int .i64 c] 31)) (.cells #[.func B #[] X] 72)
  exact ⟨⟨_, _, rfl, by simpa using h2, blk_alloc (blk_new _ _) _⟩, below_alloc (below_alloc HB.out _) _⟩
/-- The five rules, laid. -/
def valid_Graph.Laid (A0 : Option Addr) (c0 : Nat) (l0 : List (S23)) (A1 : Option Addr) (c1 : Nat) (l1 : List (S36)) (w' : World) (b g g1 e1 g2 e2 g3 e3 g4 e4 : Nat) : Prop :=
  w'.heap[b]? = some (.cells #[.func (.func 49) #[] #[.pointer (some ⟨g, 0, none⟩), .pointer (some ⟨g1, 0, none⟩), .pointer (some ⟨e1, 0, none⟩)], .func (.func 49) #[] #[.pointer (some ⟨g, 0, none⟩), .pointer (some ⟨g2, 0, none⟩), .pointer (some ⟨e2, 0, none⟩)], .func (.func 51) #[] #[.pointer (some ⟨g, 0, none⟩), .pointer (some ⟨g3, 0, none⟩), .pointer (some ⟨e3, 0, none⟩)], .func (.func 51) #[] #[.pointer (some ⟨g, 0, none⟩), .pointer (some ⟨g4, 0, none⟩), .pointer (some ⟨e4, 0, none⟩)], .func (.func 59) #[] #[.pointer (some ⟨g, 0, none⟩)]] 57 (0, 0)) ∧ w'.heap[g]? = some (.cells #[.slice A0 l0.length c0, .slice A1 l1.length c1] 29 (0, 0)) ∧ w'.heap[g1]? = some (.cells #[.func (.func 54) #[] #[.pointer (some ⟨g, 0, none⟩)]] 70 (0, 0)) ∧ w'.heap[e1]? = some (.cells #[.int .i64 11] 31 (0, 0)) ∧ w'.heap[g2]? = some (.cells #[.func (.func 56) #[] #[.pointer (some ⟨g, 0, none⟩)]] 70 (0, 0)) ∧ w'.heap[e2]? = some (.cells #[.int .i64 12] 31 (0, 0)) ∧ w'.heap[g3]? = some (.cells #[.func (.func 57) #[] #[]] 72 (0, 0)) ∧ w'.heap[e3]? = some (.cells #[.int .i64 13] 31 (0, 0)) ∧ w'.heap[g4]? = some (.cells #[.func (.func 58) #[] #[.pointer (some ⟨g, 0, none⟩)]] 72 (0, 0)) ∧ w'.heap[e4]? = some (.cells #[.int .i64 15] 31 (0, 0))
def valid_Graph.Rules (A0 : Option Addr) (c0 : Nat) (l0 : List (S23)) (A1 : Option Addr) (c1 : Nat) (l1 : List (S36)) (e : Ending) (w' : World) : Prop :=
  ∃ b g g1 e1 g2 e2 g3 e3 g4 e4 : Nat, e = .returned (.slice (some ⟨b, 0, none⟩) 5 5) ∧ valid_Graph.Laid A0 c0 l0 A1 c1 l1 w' b g g1 e1 g2 e2 g3 e3 g4 e4
set_option maxHeartbeats 8000000 in
set_option maxRecDepth 100000 in
theorem valid_Graph.rules_calls (A0 : Option Addr) (c0 : Nat) (l0 : List (S23)) (A1 : Option Addr) (c1 : Nat) (l1 : List (S36)) (w : World) :
    Calls Try.prog 30 #[.agg #[.slice A0 l0.length c0, .slice A1 l1.length c1]] w fun e w' => valid_Graph.Rules A0 c0 l0 A1 c1 l1 e w' ∧ Below w.heap.size w w' := by
  have hu1 := Try.underlying29
  have hu2 := Try.underlying55
  have hu3 := Try.underlying57
  have hmf : ∀ (fn : Fn) (first cap : Array Value) (w : World), (Instr.makeFunc fn first cap).run Try.prog w = .ok (.func fn first cap) w := fun _ _ _ _ => rfl
  obtain ⟨g, hgq⟩ : ∃ g : Nat, g = w.heap.size := ⟨_, rfl⟩
  have HQ := Aside0.mk hgq
  have HB := Aside0.mk (below_alloc (Below.refl w.heap.size w) (.cells #[.slice A0 l0.length c0, .slice A1 l1.length c1] 29))
  have BG := Aside0.mk (show (w.alloc (.cells #[.slice A0 l0.length c0, .slice A1 l1.length c1] 29)).heap[g]? = some (.cells #[.slice A0 l0.length c0, .slice A1 l1.length c1] 29 (0, 0)) from by rw [hgq]; exact blk_new _ _)
  clear hgq
  go_enter Try.func30, Try.ntmps30
  go_wp2_with (fail)
  (try rw [← HQ.out])
  go_wp2_with (first
    | (go_at_call 48; (with_reducible refine (valid_Graph.mk1_calls 11 (.func 54) #[.pointer (some ⟨g, 0, none⟩)] g _ (blk_lt BG.out)).mono ?_); rintro e w1 ⟨⟨g1, e1, rfl, hg, he⟩, hb⟩; have HB1 := Aside0.mk (below_step HB.out hb); have BGG1 := Aside0.mk (blk_below BG.out hb); have BG1_1 := Aside0.mk hg; have BE1_1 := Aside0.mk he; clear hb hg he HB BG)
    | (go_at_call 48; (with_reducible refine (valid_Graph.mk1_calls 12 (.func 56) #[.pointer (some ⟨g, 0, none⟩)] g _ (blk_lt BGG1.out)).mono ?_); rintro e w2 ⟨⟨g2, e2, rfl, hg, he⟩, hb⟩; have HB2 := Aside0.mk (below_step HB1.out hb); have BGG2 := Aside0.mk (blk_below BGG1.out hb); have BG2_2 := Aside0.mk hg; have BE2_2 := Aside0.mk he; have BG1_2 := Aside0.mk (blk_below BG1_1.out hb); have BE1_2 := Aside0.mk (blk_below BE1_1.out hb); clear hb hg he HB1 BGG1)
    | (go_at_call 50; (with_reducible refine (valid_Graph.mk2_calls 13 (.func 57) #[] g _ (blk_lt BGG2.out)).mono ?_); rintro e w3 ⟨⟨g3, e3, rfl, hg, he⟩, hb⟩; have HB3 := Aside0.mk (below_step HB2.out hb); have BGG3 := Aside0.mk (blk_below BGG2.out hb); have BG3_3 := Aside0.mk hg; have BE3_3 := Aside0.mk he; have BG1_3 := Aside0.mk (blk_below BG1_2.out hb); have BE1_3 := Aside0.mk (blk_below BE1_2.out hb); have BG2_3 := Aside0.mk (blk_below BG2_2.out hb); have BE2_3 := Aside0.mk (blk_below BE2_2.out hb); clear hb hg he HB2 BGG2)
    | (go_at_call 50; (with_reducible refine (valid_Graph.mk2_calls 15 (.func 58) #[.pointer (some ⟨g, 0, none⟩)] g _ (blk_lt BGG3.out)).mono ?_); rintro e w4 ⟨⟨g4, e4, rfl, hg, he⟩, hb⟩; have HB4 := Aside0.mk (below_step HB3.out hb); have BGG4 := Aside0.mk (blk_below BGG3.out hb); have BG4_4 := Aside0.mk hg; have BE4_4 := Aside0.mk he; have BG1_4 := Aside0.mk (blk_below BG1_3.out hb); have BE1_4 := Aside0.mk (blk_below BE1_3.out hb); have BG2_4 := Aside0.mk (blk_below BG2_3.out hb); have BE2_4 := Aside0.mk (blk_below BE2_3.out hb); have BG3_4 := Aside0.mk (blk_below BG3_3.out hb); have BE3_4 := Aside0.mk (blk_below BE3_3.out hb); clear hb hg he HB3 BGG3))
  go_ret
  refine ⟨?_, below_alloc HB4.out _⟩
  unfold valid_Graph.Rules valid_Graph.Laid
  exact ⟨_, g, g1, e1, g2, e2, g3, e3, g4, e4, rfl, blk_new _ _, blk_alloc BGG4.out _, blk_alloc BG1_4.out _, blk_alloc BE1_4.out _, blk_alloc BG2_4.out _, blk_alloc BE2_4.out _, blk_alloc BG3_4.out _, blk_alloc BE3_4.out _, blk_alloc BG4_4.out _, blk_alloc BE4_4.out _⟩
set_option maxHeartbeats 16000000 in
set_option maxRecDepth 100000 in
theorem valid_Graph.calls (k : Nat) (A0 : Option Addr) (c0 : Nat) (l0 : List (S23)) (A1 : Option Addr) (c1 : Nat) (l1 : List (S36)) (r : Int) (w : World) (hr0 : Kd.C k23 w A0 l0.length l0) (hc0 : l0.length ≤ c0) (hr1 : Kd.C k36 w A1 l1.length l1) (hc1 : l1.length ≤ c1) (h : valid_Graph.f k l0 l1 = some r) :
    Calls Try.prog 13 #[.agg #[.slice A0 l0.length c0, .slice A1 l1.length c1]] w fun e w' => e = .returned (.int .i64 r) ∧ Below w.heap.size w w' := by
  have hu1 := Try.underlying29
  have hu2 := Try.underlying23
  have hu3 := Try.underlying55
  have hu4 := Try.underlying57
  have hu5 := Try.underlying31
  have HR0 := Aside0.mk hr0
  have HC0 := Aside0.mk hc0
  have HR1 := Aside0.mk hr1
  have HC1 := Aside0.mk hc1
  clear hr0 hc0 hr1 hc1
  unfold valid_Graph.f at h
  have HB := Aside0.mk (below_alloc (Below.refl w.heap.size w) (.cells #[.slice A0 l0.length c0, .slice A1 l1.length c1] 29))
  by_cases q1 : l0.length < 1
  · rw [if_pos (.inl q1)] at h
    obtain rfl := Option.some.inj h
    have f1 : decide ((l0.length : Int) < 1) = true := decide_eq_true (by omega)
    have f2 : decide (l0.length < 1) = true := decide_eq_true q1
    clear h q1
    go_enter Try.func13, Try.ntmps13
    go_wp2
    go_ret
    exact ⟨rfl, HB.out⟩
  have f1 : decide ((l0.length : Int) < 1) = false := decide_eq_false (by omega)
  have f2 : decide (l0.length < 1) = false := decide_eq_false q1
  by_cases q2 : 12 < l0.length
  · rw [if_pos (.inr (.inl q2))] at h
    obtain rfl := Option.some.inj h
    have f3 : decide (12 < (l0.length : Int)) = true := decide_eq_true (by omega)
    have f4 : decide (12 < l0.length) = true := decide_eq_true q2
    clear h q1 q2
    go_enter Try.func13, Try.ntmps13
    go_wp2
    go_ret
    exact ⟨rfl, HB.out⟩
  have f3 : decide (12 < (l0.length : Int)) = false := decide_eq_false (by omega)
  have f4 : decide (12 < l0.length) = false := decide_eq_false q2
  by_cases q3 : 24 < l1.length
  · rw [if_pos (.inr (.inr q3))] at h
    obtain rfl := Option.some.inj h
    have f5 : decide (24 < (l1.length : Int)) = true := decide_eq_true (by omega)
    have f6 : decide (24 < l1.length) = true := decide_eq_true q3
    clear h q1 q2 q3
    go_enter Try.func13, Try.ntmps13
    go_wp2
    go_ret
    exact ⟨rfl, HB.out⟩
  have f5 : decide (24 < (l1.length : Int)) = false := decide_eq_false (by omega)
  have f6 : decide (24 < l1.length) = false := decide_eq_false q3
  rw [if_neg (by omega)] at h
  clear q1 q2 q3
  obtain ⟨bn, h1, h⟩ := Option.bind_eq_some_iff.mp h
  have H1 := Aside0.mk h1
  have HH := Aside0.mk h
  clear h1 h
  obtain ⟨gq, hgq⟩ : ∃ gq : Nat, gq = w.heap.size := ⟨_, rfl⟩
  have HQ := Aside0.mk hgq
  have BG := Aside0.mk (show (w.alloc (.cells #[.slice A0 l0.length c0, .slice A1 l1.length c1] 29)).heap[gq]? = some (.cells #[.slice A0 l0.length c0, .slice A1 l1.length c1] 29 (0, 0)) from by rw [hgq]; exact blk_new _ _)
  clear hgq
  go_enter Try.func13, Try.ntmps13
  go_wp2_with (fail)
  (try rw [← HQ.out])
  go_loopg [27] k (fun kq v27 w' => ∃ (i : Int), v27 = .int .i64 i ∧ Aside0 (valid_Graph.n0 kq l0 i = some bn) ∧ Aside0 (kq ≤ k) ∧ Aside0 (w'.heap[gq]? = some (.cells #[.slice A0 l0.length c0, .slice A1 l1.length c1] 29 (0, 0))) ∧ Aside0 (Below w.heap.size w w'))
  case atStart => exact ⟨0, rfl, H1, ⟨Nat.le_refl _⟩, BG, HB⟩
  case round =>
    clear H1 HB BG f1 f2 f3 f4 f5 f6
    obtain ⟨i, rfl, HA, HK1, BG, HB⟩ := hrel
    cases gk with
    | zero => exact absurd HA.out (by simp [valid_Graph.n0])
    | succ k1 =>
      have H := HA.out
      clear HA
      simp only [valid_Graph.n0] at H
      by_cases c6 : i < (l0.length : Int)
      · rw [if_pos c6] at H
        by_cases c7 : 0 ≤ i
        · rw [if_pos c7] at H
          have c6b0 : decide (i < (l0.length : Int)) = true := decide_eq_true c6
          have c7b0 : decide (0 ≤ i) = true := decide_eq_true c7
          obtain ⟨ad, e168, hn0, hn1, hn2, hn3⟩ := at_T23 HR0.out i c7 c6
          cases e168
          replace hn0 := (HB.out.cell (World.block_lt_of_cell? w _ hn0)).trans hn0
          replace hn1 := (HB.out.cell (World.block_lt_of_cell? w _ hn1)).trans hn1
          replace hn2 := (HB.out.cell (World.block_lt_of_cell? w _ hn2)).trans hn2
          replace hn3 := (HB.out.cell (World.block_lt_of_cell? w _ hn3)).trans hn3
          replace c6 := eq_true c6
          replace c7 := eq_true c7
          obtain ⟨b, h1, H⟩ := Option.bind_eq_some_iff.mp H
          have H1 := Aside0.mk h1
          have HN := Aside0.mk H
          clear h1 H
          cases b with
          | true =>
            have H' := Aside0.mk (show valid_Graph.n0 k1 l0 (wrap64 (i + 1)) = some bn from by simpa using HN.out)
            clear HN
            go_wp2_with (first | (go_at_call 10; (with_reducible refine (valid_Node.calls k1 (rd_T23 l0 i).f0 (rd_T23 l0 i).f1 (rd_T23 l0 i).f2 (rd_T23 l0 i).f3 true _ H1.out).mono ?_); rintro e w1 ⟨rfl, hb⟩; have HB1 := Aside0.mk (below_step (below_alloc HB.out _) hb); have BG1 := Aside0.mk (blk_below (blk_alloc BG.out _) hb); clear hb))
            go_roundg k1
            case measure => have := HK1.out; omega
            case rel => exact ⟨_, rfl, H', ⟨by have := HK1.out; omega⟩, BG1, HB1⟩
          | false =>
            have hbn : some false = some bn := by simpa using HN.out
            obtain rfl := Option.some.inj hbn
            have hr := HH.out
            rw [if_neg (by simp)] at hr
            obtain rfl := Option.some.inj hr
            clear HN hbn hr HH
            go_wp2_with (first | (go_at_call 10; (with_reducible refine (valid_Node.calls k1 (rd_T23 l0 i).f0 (rd_T23 l0 i).f1 (rd_T23 l0 i).f2 (rd_T23 l0 i).f3 false _ H1.out).mono ?_); rintro e w1 ⟨rfl, hb⟩; have HB1 := Aside0.mk (below_step (below_alloc HB.out _) hb); clear hb))
            go_ret
            exact ⟨rfl, HB1.out⟩
        · rw [if_neg c7] at H
          exact absurd H (by simp)
      · rw [if_neg c6] at H
        obtain rfl := Option.some.inj H
        have c6b0 : decide (i < (l0.length : Int)) = false := decide_eq_false c6
        clear c6 H
        have HS := Aside0.mk (show valid_Graph.rs k l0 l1 [0, 1, 2, 3, 4] = some r from by simpa using HH.out)
        clear HH
        have hg0 : wr.cell? ⟨gq, 0, none⟩ = some (.slice A0 l0.length c0) := (blk_cell BG.out 0).trans rfl
        have hg1 : wr.cell? ⟨gq, 1, none⟩ = some (.slice A1 l1.length c1) := (blk_cell BG.out 1).trans rfl
        go_wp2_with (first | (go_at_call 30; (with_reducible refine (valid_Graph.rules_calls A0 c0 l0 A1 c1 l1 _).mono ?_); rintro e w1 ⟨hR, hb⟩; obtain ⟨b, g, g1, e1, g2, e2, g3, e3, g4, e4, rfl, hR⟩ := hR; have HRL := Aside0.mk hR; have HB1 := Aside0.mk (below_step HB.out hb); clear hR hb))
        clear c6b0 hg0 hg1 BG
        go_loopw [38] (fun v38 w' => ∃ (j : Nat), v38 = .int .i64 j ∧ Aside0 (j ≤ 5) ∧ Aside0 (valid_Graph.rs k l0 l1 ([0, 1, 2, 3, 4].drop j) = some r) ∧ Aside0 (Below w1.heap.size w1 w')) (fun v38 _ => 5 - (intOf v38).toNat)
        case atStart => exact ⟨0, rfl, ⟨by omega⟩, HS, ⟨Below.refl _ _⟩⟩
        case round =>
          clear HS
          obtain ⟨j, rfl, HJ, HS, HBx⟩ := hrel
          obtain ⟨L0, L1, L2, L3, L4, L5, L6, L7, L8, L9⟩ := HRL.out
          have M0 := Aside0.mk (blk_below L0 HBx.out)
          have M1 := Aside0.mk (blk_below L1 HBx.out)
          have N1 := Aside0.mk (blk_below L2 HBx.out)
          have N2 := Aside0.mk (blk_below L3 HBx.out)
          have N3 := Aside0.mk (blk_below L4 HBx.out)
          have N4 := Aside0.mk (blk_below L5 HBx.out)
          have N5 := Aside0.mk (blk_below L6 HBx.out)
          have N6 := Aside0.mk (blk_below L7 HBx.out)
          have N7 := Aside0.mk (blk_below L8 HBx.out)
          have N8 := Aside0.mk (blk_below L9 HBx.out)
          clear L0 L1 L2 L3 L4 L5 L6 L7 L8 L9
          have HBa := Aside0.mk (below_step HB1.out HBx.out)
          have hK0 := Aside0.mk (Kd.C_below HR0.out HBa.out)
          have hK1 := Aside0.mk (Kd.C_below HR1.out HBa.out)
          have j5 : j = 0 ∨ j = 1 ∨ j = 2 ∨ j = 3 ∨ j = 4 ∨ j = 5 := by have := HJ.out; omega
          rcases j5 with rfl | rfl | rfl | rfl | rfl | rfl
          · have H := HS.out
            simp only [List.drop_succ_cons, List.drop_zero, valid_Graph.rs, valid_Graph.rule] at H
            obtain ⟨ec, h1, H⟩ := Option.bind_eq_some_iff.mp H
            obtain ⟨bb, h3, h2⟩ := Option.bind_eq_some_iff.mp h1
            obtain rfl := Option.some.inj h2
            have H1 := Aside0.mk h3
            have HH := Aside0.mk H
            clear h1 h2 h3 H
            have hc : wr.cell? ⟨b, 0, none⟩ = some (.func (.func 49) #[] #[.pointer (some ⟨g, 0, none⟩), .pointer (some ⟨g1, 0, none⟩), .pointer (some ⟨e1, 0, none⟩)]) := (blk_cell M0.out 0).trans rfl
            cases bb with
            | true =>
              have hr : some (11 : Int) = some r := by simpa using HH.out
              obtain rfl := Option.some.inj hr
              clear hr HH
              go_wp2_with (first | (go_at_call 49; (with_reducible refine (valid_Graph.e1_calls k A0 c0 l0 A1 c1 l1 g g1 e1 true _ hK0.out HC0.out hK1.out HC1.out M1.out N1.out N2.out H1.out).mono ?_); rintro e w2 ⟨rfl, hb⟩; have HBy := Aside0.mk (below_step HBx.out hb); have HBz := Aside0.mk (below_step HBa.out hb); clear hb))
              go_ret
              exact ⟨rfl, HBz.out⟩
            | false =>
              have HS' := Aside0.mk (show valid_Graph.rs k l0 l1 ([0, 1, 2, 3, 4].drop 1) = some r from by simpa [valid_Graph.rs, valid_Graph.rule] using HH.out)
              clear HH
              go_wp2_with (first | (go_at_call 49; (with_reducible refine (valid_Graph.e1_calls k A0 c0 l0 A1 c1 l1 g g1 e1 false _ hK0.out HC0.out hK1.out HC1.out M1.out N1.out N2.out H1.out).mono ?_); rintro e w2 ⟨rfl, hb⟩; have HBy := Aside0.mk (below_step HBx.out hb); have HBz := Aside0.mk (below_step HBa.out hb); clear hb))
              go_roundw
              case rel => exact ⟨1, rfl, ⟨by omega⟩, HS', HBy⟩
              case measure => simp [intOf]
          · have H := HS.out
            simp only [List.drop_succ_cons, List.drop_zero, valid_Graph.rs, valid_Graph.rule] at H
            obtain ⟨ec, h1, H⟩ := Option.bind_eq_some_iff.mp H
            obtain ⟨bb, h3, h2⟩ := Option.bind_eq_some_iff.mp h1
            obtain rfl := Option.some.inj h2
            have H1 := Aside0.mk h3
            have HH := Aside0.mk H
            clear h1 h2 h3 H
            have hc : wr.cell? ⟨b, 1, none⟩ = some (.func (.func 49) #[] #[.pointer (some ⟨g, 0, none⟩), .pointer (some ⟨g2, 0, none⟩), .pointer (some ⟨e2, 0, none⟩)]) := (blk_cell M0.out 1).trans rfl
            cases bb with
            | true =>
              have hr : some (12 : Int) = some r := by simpa using HH.out
              obtain rfl := Option.some.inj hr
              clear hr HH
              go_wp2_with (first | (go_at_call 49; (with_reducible refine (valid_Graph.e2_calls k A0 c0 l0 A1 c1 l1 g g2 e2 true _ hK0.out HC0.out hK1.out HC1.out M1.out N3.out N4.out H1.out).mono ?_); rintro e w2 ⟨rfl, hb⟩; have HBy := Aside0.mk (below_step HBx.out hb); have HBz := Aside0.mk (below_step HBa.out hb); clear hb))
              go_ret
              exact ⟨rfl, HBz.out⟩
            | false =>
              have HS' := Aside0.mk (show valid_Graph.rs k l0 l1 ([0, 1, 2, 3, 4].drop 2) = some r from by simpa [valid_Graph.rs, valid_Graph.rule] using HH.out)
              clear HH
              go_wp2_with (first | (go_at_call 49; (with_reducible refine (valid_Graph.e2_calls k A0 c0 l0 A1 c1 l1 g g2 e2 false _ hK0.out HC0.out hK1.out HC1.out M1.out N3.out N4.out H1.out).mono ?_); rintro e w2 ⟨rfl, hb⟩; have HBy := Aside0.mk (below_step HBx.out hb); have HBz := Aside0.mk (below_step HBa.out hb); clear hb))
              go_roundw
              case rel => exact ⟨2, rfl, ⟨by omega⟩, HS', HBy⟩
              case measure => simp [intOf]
          · have H := HS.out
            simp only [List.drop_succ_cons, List.drop_zero, valid_Graph.rs, valid_Graph.rule] at H
            obtain ⟨ec, h1, H⟩ := Option.bind_eq_some_iff.mp H
            obtain ⟨xs, hl, h4⟩ := Option.bind_eq_some_iff.mp h1
            have HL := Aside0.mk hl
            clear hl
            obtain ⟨bb, h3, h2⟩ := Option.bind_eq_some_iff.mp h4
            obtain rfl := Option.some.inj h2
            have H1 := Aside0.mk h3
            have HH := Aside0.mk H
            clear h1 h2 h3 H h4
            have hc : wr.cell? ⟨b, 2, none⟩ = some (.func (.func 51) #[] #[.pointer (some ⟨g, 0, none⟩), .pointer (some ⟨g3, 0, none⟩), .pointer (some ⟨e3, 0, none⟩)]) := (blk_cell M0.out 2).trans rfl
            cases bb with
            | true =>
              have hr : some (13 : Int) = some r := by simpa using HH.out
              obtain rfl := Option.some.inj hr
              clear hr HH
              go_wp2_with (first | (go_at_call 51; (with_reducible refine (valid_Graph.p3_calls k A0 c0 l0 A1 c1 l1 xs g g3 e3 true _ hK0.out HC0.out hK1.out HC1.out M1.out N5.out N6.out HL.out H1.out).mono ?_); rintro e w2 ⟨rfl, hb⟩; have HBy := Aside0.mk (below_step HBx.out hb); have HBz := Aside0.mk (below_step HBa.out hb); clear hb))
              go_ret
              exact ⟨rfl, HBz.out⟩
            | false =>
              have HS' := Aside0.mk (show valid_Graph.rs k l0 l1 ([0, 1, 2, 3, 4].drop 3) = some r from by simpa [valid_Graph.rs, valid_Graph.rule] using HH.out)
              clear HH
              go_wp2_with (first | (go_at_call 51; (with_reducible refine (valid_Graph.p3_calls k A0 c0 l0 A1 c1 l1 xs g g3 e3 false _ hK0.out HC0.out hK1.out HC1.out M1.out N5.out N6.out HL.out H1.out).mono ?_); rintro e w2 ⟨rfl, hb⟩; have HBy := Aside0.mk (below_step HBx.out hb); have HBz := Aside0.mk (below_step HBa.out hb); clear hb))
              go_roundw
              case rel => exact ⟨3, rfl, ⟨by omega⟩, HS', HBy⟩
              case measure => simp [intOf]
          · have H := HS.out
            simp only [List.drop_succ_cons, List.drop_zero, valid_Graph.rs, valid_Graph.rule] at H
            obtain ⟨ec, h1, H⟩ := Option.bind_eq_some_iff.mp H
            obtain ⟨xs, hl, h4⟩ := Option.bind_eq_some_iff.mp h1
            have HL := Aside0.mk hl
            clear hl
            obtain ⟨bb, h3, h2⟩ := Option.bind_eq_some_iff.mp h4
            obtain rfl := Option.some.inj h2
            have H1 := Aside0.mk h3
            have HH := Aside0.mk H
            clear h1 h2 h3 H h4
            have hc : wr.cell? ⟨b, 3, none⟩ = some (.func (.func 51) #[] #[.pointer (some ⟨g, 0, none⟩), .pointer (some ⟨g4, 0, none⟩), .pointer (some ⟨e4, 0, none⟩)]) := (blk_cell M0.out 3).trans rfl
            cases bb with
            | true =>
              have hr : some (15 : Int) = some r := by simpa using HH.out
              obtain rfl := Option.some.inj hr
              clear hr HH
              go_wp2_with (first | (go_at_call 51; (with_reducible refine (valid_Graph.p4_calls k A0 c0 l0 A1 c1 l1 xs g g4 e4 true _ hK0.out HC0.out hK1.out HC1.out M1.out N7.out N8.out HL.out H1.out).mono ?_); rintro e w2 ⟨rfl, hb⟩; have HBy := Aside0.mk (below_step HBx.out hb); have HBz := Aside0.mk (below_step HBa.out hb); clear hb))
              go_ret
              exact ⟨rfl, HBz.out⟩
            | false =>
              have HS' := Aside0.mk (show valid_Graph.rs k l0 l1 ([0, 1, 2, 3, 4].drop 4) = some r from by simpa [valid_Graph.rs, valid_Graph.rule] using HH.out)
              clear HH
              go_wp2_with (first | (go_at_call 51; (with_reducible refine (valid_Graph.p4_calls k A0 c0 l0 A1 c1 l1 xs g g4 e4 false _ hK0.out HC0.out hK1.out HC1.out M1.out N7.out N8.out HL.out H1.out).mono ?_); rintro e w2 ⟨rfl, hb⟩; have HBy := Aside0.mk (below_step HBx.out hb); have HBz := Aside0.mk (below_step HBa.out hb); clear hb))
              go_roundw
              case rel => exact ⟨4, rfl, ⟨by omega⟩, HS', HBy⟩
              case measure => simp [intOf]
          · have H := HS.out
            simp only [List.drop_succ_cons, List.drop_zero, valid_Graph.rs, valid_Graph.rule] at H
            obtain ⟨ec, h1, H⟩ := Option.bind_eq_some_iff.mp H
            obtain ⟨bb, h3, h2⟩ := Option.bind_eq_some_iff.mp h1
            obtain rfl := Option.some.inj h2
            have H1 := Aside0.mk h3
            have HH := Aside0.mk H
            clear h1 h2 h3 H
            have hc : wr.cell? ⟨b, 4, none⟩ = some (.func (.func 59) #[] #[.pointer (some ⟨g, 0, none⟩)]) := (blk_cell M0.out 4).trans rfl
            cases bb with
            | true =>
              have hr : some (14 : Int) = some r := by simpa using HH.out
              obtain rfl := Option.some.inj hr
              clear hr HH
              go_wp2_with (first | (go_at_call 59; (with_reducible refine (valid_Graph.c5_calls k A0 c0 l0 A1 c1 l1 g true _ hK0.out HC0.out hK1.out HC1.out M1.out H1.out).mono ?_); rintro e w2 ⟨rfl, hb⟩; have HBy := Aside0.mk (below_step HBx.out hb); have HBz := Aside0.mk (below_step HBa.out hb); clear hb))
              go_ret
              exact ⟨rfl, HBz.out⟩
            | false =>
              have HS' := Aside0.mk (show valid_Graph.rs k l0 l1 ([0, 1, 2, 3, 4].drop 5) = some r from by simpa [valid_Graph.rs, valid_Graph.rule] using HH.out)
              clear HH
              go_wp2_with (first | (go_at_call 59; (with_reducible refine (valid_Graph.c5_calls k A0 c0 l0 A1 c1 l1 g false _ hK0.out HC0.out hK1.out HC1.out M1.out H1.out).mono ?_); rintro e w2 ⟨rfl, hb⟩; have HBy := Aside0.mk (below_step HBx.out hb); have HBz := Aside0.mk (below_step HBa.out hb); clear hb))
              go_roundw
              case rel => exact ⟨5, rfl, ⟨by omega⟩, HS', HBy⟩
              case measure => simp [intOf]
          · have H := HS.out
            simp only [List.drop_succ_cons, List.drop_zero, List.drop_nil, valid_Graph.rs] at H
            obtain rfl := Option.some.inj H
            clear H HS
            go_wp2
            go_ret
            exact ⟨rfl, HBa.out⟩

end Go.Proofs.Ytjlnjlnecipllaa.PAll
