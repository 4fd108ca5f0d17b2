/- Plain lemmas on graphs: what the printed functions of layer 8 and of its reference come to. No program in sight. -/
import Derived.Test.YtjlnjlnecipllaaPAllx4
import Derived.Test.YtjlnjlnecipllaaPAllx3
import Derived.Test.YtjlnjlnecipllaaPAllx3
import Derived.Test.YtjlnjlnecipllaaPAllx3
namespace Go.Proofs.Ytjlnjlnecipllaa.Pure
open Go.RowKit Go.Proofs.Ytjlnjlnecipllaa.PAll Go.Proofs.YtjlnjlnecipllaaW.PrintWords Go.Proofs.YtjlnjlnecipllaaW.PrintLast Go.Proofs.YtjlnjlnecipllaaW.PrintMore
set_option linter.unusedVariables false
set_option linter.unusedSimpArgs false

theorem w_id {x : Int} (h : -9223372036854775808 ≤ x) (h' : x ≤ 9223372036854775807) : wrap64 x = x := by unfold wrap64; omega
theorem ev_pos {α : Type} {c : Prop} [Decidable c] {g f : Nat → Option α} {r : α} (h : c) (k : Ev g r) : Ev (fun n => if c then g n else f n) r := Ev.congr (fun _ => if_pos h) k
theorem ev_neg {α : Type} {c : Prop} [Decidable c] {g f : Nat → Option α} {r : α} (h : ¬ c) (k : Ev f r) : Ev (fun n => if c then g n else f n) r := Ev.congr (fun _ => if_neg h) k
theorem ev_some {α : Type} {r q : α} (h : q = r) : Ev (fun _ => some q) r := h ▸ Ev.now q
theorem ev_bind {α β : Type} {g : Option α} {f : Nat → α → Option β} {a : α} {r : β} (h : g = some a) (k : Ev (fun n => f n a) r) : Ev (fun n => g.bind (f n)) r := Ev.bind (g := fun _ => g) ⟨0, fun _ _ => h⟩ k

/-- The order of places. -/
def ordS (a0 a1 b0 b1 : Int) : Int := if a0 < b0 then -1 else if b0 < a0 then 1 else if a1 < b1 then -1 else if b1 < a1 then 1 else 0
def cmpS (a b : Int) : Int := if a < b then -1 else if b < a then 1 else 0
theorem nan_s (a : Int) : cmp_isNaN_int.f a = some false := by unfold cmp_isNaN_int.f; simp
theorem compare_s (a b : Int) : cmp_Compare_int.f a b = some (cmpS a b) := by
  unfold cmp_Compare_int.f cmpS
  rw [nan_s, nan_s]
  simp only [Option.bind_some]
  rw [if_neg (by simp), if_neg (by simp)]
  split
  · rfl
  · split
    · rfl
    · rfl
theorem or_s (x y : Int) : Ev (fun k => cmp_Or_int.f k [x, y]) (if x = 0 then y else x) := by
  unfold cmp_Or_int.f
  refine Ev.step (fun k => cmp_Or_int.l0.eq_2 _ _ _ _ k) (ev_pos (by simp) (ev_pos (by omega) (ev_pos (by simp) ?_)))
  by_cases hx : x = 0
  · refine ev_pos (by subst hx; rfl) ?_
    rw [if_pos hx, w_id (by omega) (by omega)]
    refine Ev.step (fun k => cmp_Or_int.l0.eq_2 _ _ _ _ k) (ev_pos (by simp) (ev_pos (by omega) (ev_pos (by simp) ?_)))
    by_cases hy : y = 0
    · refine ev_pos (by subst hy; rfl) ?_
      rw [w_id (by omega) (by omega)]
      exact Ev.step (fun k => cmp_Or_int.l0.eq_2 _ _ _ _ k) (ev_neg (by simp) (ev_some hy.symm))
    · exact ev_neg hy (ev_some rfl)
  · exact ev_neg hx (ev_some (by rw [if_neg hx]; rfl))
theorem order_s (a0 a1 b0 b1 : Int) : Ev (fun k => graph_Order.f k a0 a1 b0 b1) (ordS a0 a1 b0 b1) := by
  unfold graph_Order.f
  refine ev_bind (compare_s _ _) (ev_bind (compare_s _ _) (Ev.bind (or_s _ _) (ev_some ?_)))
  unfold ordS cmpS
  repeat' split
  all_goals omega
theorem ins_s (k : Int) : graph_Ins.f k = some (if k = 4 then 2 else if 2 ≤ k ∧ k ≤ 11 then 1 else 0) := by
  unfold graph_Ins.f
  repeat' split
  all_goals first | rfl | omega
theorem has_s (k : Int) : graph_HasOut.f k = some (decide (1 ≤ k ∧ k ≤ 10)) := by
  unfold graph_HasOut.f
  by_cases h : k ≥ 1
  · rw [if_pos h]; simp only [Option.some.injEq, decide_eq_decide]; omega
  · rw [if_neg h]; simp only [Option.some.injEq]; exact (decide_eq_false (by omega)).symm
theorem order_bd (a0 a1 b0 b1 : Int) : -1 ≤ ordS a0 a1 b0 b1 ∧ ordS a0 a1 b0 b1 ≤ 1 := by
  unfold ordS
  repeat' split
  all_goals omega

def insS (k : Int) : Int := if k = 4 then 2 else if 2 ≤ k ∧ k ≤ 11 then 1 else 0
theorem ins_s' (k : Int) : graph_Ins.f k = some (insS k) := ins_s k
theorem insS_bd (k : Int) : 0 ≤ insS k ∧ insS k ≤ 2 := by
  unfold insS
  repeat' split
  all_goals omega
theorem rdE {es : List S36} {i : Nat} (h : i < es.length) : rd_T36 es (i : Int) = es[i] := by
  unfold rd_T36; rw [List.getD_eq_getElem?_getD]; simp [List.getElem?_eq_getElem h]
theorem rdN {es : List S23} {i : Nat} (h : i < es.length) : rd_T23 es (i : Int) = es[i] := by
  unfold rd_T23; rw [List.getD_eq_getElem?_getD]; simp [List.getElem?_eq_getElem h]
theorem rdL {es : List S47} {i : Nat} (h : i < es.length) : rd_T47 es (i : Int) = es[i] := by
  unfold rd_T47; rw [List.getD_eq_getElem?_getD]; simp [List.getElem?_eq_getElem h]
def inS (k d : Int) : Int := if k = 8 then d - 1 else if k = 9 then d + 1 else d
theorem in_s (k a b d : Int) (h : -1000000 ≤ d ∧ d ≤ 1000000) : graph_InDepth.f k a b d = some (inS k d) := by
  unfold graph_InDepth.f inS
  rw [w_id (by omega) (by omega), w_id (by omega) (by omega)]
  split
  · rfl
  · split
    · rfl
    · rfl
end Go.Proofs.Ytjlnjlnecipllaa.Pure
