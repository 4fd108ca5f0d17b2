/- ValidNumbers: a graph that is accepted is refused with a node's kind, depth or number out of bounds; whether it is accepted does not hang on the order of its edges: true, for every graph and numbers. Conditions: none. -/
import Derived.Test.YtjlnjlnecipllaaGOpen
import Derived.Test.YtjlnjlnecipllaaValShown
import Derived.Test.YtjlnjlnecipllaaValLaws
import Derived.Test.YtjlnjlnecipllaaPAllNum0
import Derived.Test.YtjlnjlnecipllaaPAllNum1
import Derived.Test.YtjlnjlnecipllaaPAllNum2
import Derived.Test.YtjlnjlnecipllaaPAllNum3
import Derived.Laws.BitsAllLaws
namespace Go.Proofs.Ytjlnjlnecipllaa.Hand
open Go.RowKit Go.Proofs.YtjlnjlnecipllaaW.PrintWords Go.Proofs.YtjlnjlnecipllaaW.PrintLast Go.Proofs.YtjlnjlnecipllaaW.PrintMore Go.Proofs.Ytjlnjlnecipllaa.PAll Go.Proofs.Ytjlnjlnecipllaa.Pure
set_option linter.unusedVariables false
theorem and_three (a : Int) : Go.bits .and .i64 a 3 = 0 ∨ Go.bits .and .i64 a 3 = 1 ∨ Go.bits .and .i64 a 3 = 2 ∨ Go.bits .and .i64 a 3 = 3 := by
  have hx : (BitVec.ofInt 64 a &&& BitVec.ofInt 64 3).toNat ≤ 3 := by
    rw [BitVec.toNat_and]
    exact Nat.le_trans Nat.and_le_right (by decide)
  have e : Go.bits .and .i64 a 3 = IntKind.i64.wrap ((BitVec.ofInt 64 a &&& BitVec.ofInt 64 3).toNat : Int) := rfl
  rw [e, IntKind.wrap_i64]
  omega
theorem num0_l0 (ns : List S23) (es : List S36) (x1 x2 : Int) (hA : Accept ns es) (h0 : 0 ≤ x1) (h1 : x1 < (ns.length : Int)) (hw : Go.bits .and .i64 x2 3 = 0) (m : Nat) : ∀ (x9 : Int) (acc : List S36), -1 ≤ x9 → x9 < (es.length : Int) → x9 + 1 = m → acc = (es.drop m).reverse →
    Ev (fun k => meanderlaw09_ValidNumbers_Num0.l0 k x1 x2 true x9 ns es ns acc) true := by
  have hz := hA.size
  unfold SizeP at hz
  induction m with
  | zero =>
    intro x9 acc ha hb hc he
    refine Ev.step (fun k => meanderlaw09_ValidNumbers_Num0.l0.eq_2 _ _ _ _ _ _ _ _ k) (ev_neg (by omega) (ev_bind rfl (ev_pos (by simp; omega) (ev_bind rfl ?_))))
    rw [List.drop_zero] at he
    simp only [List.nil_append]
    have hg : graphS ns acc = 0 := by rw [he]; exact graphS_accept.2 (accept_reverse hA)
    have hbad : graphS (ns.set x1.toNat (⟨12, (rd_T23 ns x1).f1, (rd_T23 ns x1).f2, (rd_T23 ns x1).f3⟩ : S23)) es = 10 := bad_node hA _ (by omega) _ (kind_twelve _ _ _)
    refine (ev_pos hw (ev_pos h0 (ev_pos h1 (ev_pos trivial ?_))))
    have g1 := graph_s ns acc
    rw [hg] at g1
    have g2 := graph_s (ns.set x1.toNat (⟨12, (rd_T23 ns x1).f1, (rd_T23 ns x1).f2, (rd_T23 ns x1).f3⟩ : S23)) es
    rw [hbad] at g2
    exact Ev.bind g1 (ev_pos rfl (Ev.bind g2 (ev_some rfl)))
  | succ m ih =>
    intro x9 acc ha hb hc he
    have e9 : x9 = ((m : Nat) : Int) := by omega
    have hm : m < es.length := by omega
    have hl : acc.length ≤ es.length := by rw [he, List.length_reverse, List.length_drop]; omega
    refine Ev.step (fun k => meanderlaw09_ValidNumbers_Num0.l0.eq_2 _ _ _ _ _ _ _ _ k) (ev_pos (by omega) (ev_pos (by omega) (ev_pos hb (ev_pos (by omega) ?_))))
    rw [w_id (by omega) (by omega), e9, rdE hm]
    refine ih _ _ (by omega) (by omega) (by omega) ?_
    rw [he, List.drop_eq_getElem_cons hm, List.reverse_cons]
theorem num0_s (ns : List S23) (es : List S36) (x1 x2 : Int) (hw : Go.bits .and .i64 x2 3 = 0) : Ev (fun k => meanderlaw09_ValidNumbers_Num0.f k ns es x1 x2) true := by
  unfold meanderlaw09_ValidNumbers_Num0.f
  refine Ev.bind shown9_s (ev_bind (few9_s ns es) ?_)
  dsimp only
  refine Ev.bind (graph_s _ _) ?_
  have yes : ∀ a b, Ev (fun k => meanderlaw09_ValidNumbers_Num0.j0 k x1 x2 true true a b) true := fun a b => Ev.step (fun k => meanderlaw09_ValidNumbers_Num0.j0.eq_2 _ _ _ _ _ _ k) (ev_pos rfl (ev_some rfl))
  by_cases hg : graphS (ns.take 14) (es.take 26) = 0
  · refine ev_pos hg ?_
    by_cases h0 : x1 < 0
    · exact ev_pos h0 (yes _ _)
    refine ev_neg h0 ?_
    by_cases h1 : x1 ≥ ((ns.take 14).length : Int)
    · rw [decide_eq_true h1]; exact yes _ _
    · rw [decide_eq_false h1]
      have hA := graphS_accept.1 hg
      have hz := hA.size
      unfold SizeP at hz
      refine Ev.step (fun k => meanderlaw09_ValidNumbers_Num0.j0.eq_2 _ _ _ _ _ _ k) (ev_neg (by simp) ?_)
      rw [w_id (by omega) (by omega)]
      refine num0_l0 _ _ x1 x2 hA (by omega) (by omega) hw (es.take 26).length _ _ (by omega) (by omega) (by omega) ?_
      rw [List.drop_length]; rfl
  · exact ev_neg hg (yes _ _)
theorem num1_l0 (ns : List S23) (es : List S36) (x1 x2 : Int) (hA : Accept ns es) (h0 : 0 ≤ x1) (h1 : x1 < (ns.length : Int)) (hw : Go.bits .and .i64 x2 3 = 1) (m : Nat) : ∀ (x9 : Int) (acc : List S36), -1 ≤ x9 → x9 < (es.length : Int) → x9 + 1 = m → acc = (es.drop m).reverse →
    Ev (fun k => meanderlaw09_ValidNumbers_Num1.l0 k x1 x2 true x9 ns es ns acc) true := by
  have hz := hA.size
  unfold SizeP at hz
  induction m with
  | zero =>
    intro x9 acc ha hb hc he
    refine Ev.step (fun k => meanderlaw09_ValidNumbers_Num1.l0.eq_2 _ _ _ _ _ _ _ _ k) (ev_neg (by omega) (ev_bind rfl (ev_pos (by simp; omega) (ev_bind rfl ?_))))
    rw [List.drop_zero] at he
    simp only [List.nil_append]
    have hg : graphS ns acc = 0 := by rw [he]; exact graphS_accept.2 (accept_reverse hA)
    have hbad : graphS (ns.set x1.toNat (⟨(rd_T23 ns x1).f0, (rd_T23 ns x1).f1, (rd_T23 ns x1).f2, 4⟩ : S23)) es = 10 := bad_node hA _ (by omega) _ (depth_four _ _ _)
    refine (ev_neg (by rw [hw]; decide) (ev_pos hw (ev_pos h0 (ev_pos h1 (ev_pos trivial ?_)))))
    have g1 := graph_s ns acc
    rw [hg] at g1
    have g2 := graph_s (ns.set x1.toNat (⟨(rd_T23 ns x1).f0, (rd_T23 ns x1).f1, (rd_T23 ns x1).f2, 4⟩ : S23)) es
    rw [hbad] at g2
    exact Ev.bind g1 (ev_pos rfl (Ev.bind g2 (ev_some rfl)))
  | succ m ih =>
    intro x9 acc ha hb hc he
    have e9 : x9 = ((m : Nat) : Int) := by omega
    have hm : m < es.length := by omega
    have hl : acc.length ≤ es.length := by rw [he, List.length_reverse, List.length_drop]; omega
    refine Ev.step (fun k => meanderlaw09_ValidNumbers_Num1.l0.eq_2 _ _ _ _ _ _ _ _ k) (ev_pos (by omega) (ev_pos (by omega) (ev_pos hb (ev_pos (by omega) ?_))))
    rw [w_id (by omega) (by omega), e9, rdE hm]
    refine ih _ _ (by omega) (by omega) (by omega) ?_
    rw [he, List.drop_eq_getElem_cons hm, List.reverse_cons]
theorem num1_s (ns : List S23) (es : List S36) (x1 x2 : Int) (hw : Go.bits .and .i64 x2 3 = 1) : Ev (fun k => meanderlaw09_ValidNumbers_Num1.f k ns es x1 x2) true := by
  unfold meanderlaw09_ValidNumbers_Num1.f
  refine Ev.bind shown9_s (ev_bind (few9_s ns es) ?_)
  dsimp only
  refine Ev.bind (graph_s _ _) ?_
  have yes : ∀ a b, Ev (fun k => meanderlaw09_ValidNumbers_Num1.j0 k x1 x2 true true a b) true := fun a b => Ev.step (fun k => meanderlaw09_ValidNumbers_Num1.j0.eq_2 _ _ _ _ _ _ k) (ev_pos rfl (ev_some rfl))
  by_cases hg : graphS (ns.take 14) (es.take 26) = 0
  · refine ev_pos hg ?_
    by_cases h0 : x1 < 0
    · exact ev_pos h0 (yes _ _)
    refine ev_neg h0 ?_
    by_cases h1 : x1 ≥ ((ns.take 14).length : Int)
    · rw [decide_eq_true h1]; exact yes _ _
    · rw [decide_eq_false h1]
      have hA := graphS_accept.1 hg
      have hz := hA.size
      unfold SizeP at hz
      refine Ev.step (fun k => meanderlaw09_ValidNumbers_Num1.j0.eq_2 _ _ _ _ _ _ k) (ev_neg (by simp) ?_)
      rw [w_id (by omega) (by omega)]
      refine num1_l0 _ _ x1 x2 hA (by omega) (by omega) hw (es.take 26).length _ _ (by omega) (by omega) (by omega) ?_
      rw [List.drop_length]; rfl
  · exact ev_neg hg (yes _ _)
theorem num2_l0 (ns : List S23) (es : List S36) (x1 x2 : Int) (hA : Accept ns es) (h0 : 0 ≤ x1) (h1 : x1 < (ns.length : Int)) (hw : Go.bits .and .i64 x2 3 = 2) (m : Nat) : ∀ (x9 : Int) (acc : List S36), -1 ≤ x9 → x9 < (es.length : Int) → x9 + 1 = m → acc = (es.drop m).reverse →
    Ev (fun k => meanderlaw09_ValidNumbers_Num2.l0 k x1 x2 true x9 ns es ns acc) true := by
  have hz := hA.size
  unfold SizeP at hz
  induction m with
  | zero =>
    intro x9 acc ha hb hc he
    refine Ev.step (fun k => meanderlaw09_ValidNumbers_Num2.l0.eq_2 _ _ _ _ _ _ _ _ k) (ev_neg (by omega) (ev_bind rfl (ev_pos (by simp; omega) (ev_bind rfl ?_))))
    rw [List.drop_zero] at he
    simp only [List.nil_append]
    have hg : graphS ns acc = 0 := by rw [he]; exact graphS_accept.2 (accept_reverse hA)
    have hbad : graphS (ns.set x1.toNat (⟨(rd_T23 ns x1).f0, 5000, (rd_T23 ns x1).f2, (rd_T23 ns x1).f3⟩ : S23)) es = 10 := bad_node hA _ (by omega) _ (a_big _ _ _)
    refine (ev_neg (by rw [hw]; decide) (ev_neg (by rw [hw]; decide) (ev_pos hw (ev_pos h0 (ev_pos h1 (ev_pos trivial ?_))))))
    have g1 := graph_s ns acc
    rw [hg] at g1
    have g2 := graph_s (ns.set x1.toNat (⟨(rd_T23 ns x1).f0, 5000, (rd_T23 ns x1).f2, (rd_T23 ns x1).f3⟩ : S23)) es
    rw [hbad] at g2
    exact Ev.bind g1 (ev_pos rfl (Ev.bind g2 (ev_some rfl)))
  | succ m ih =>
    intro x9 acc ha hb hc he
    have e9 : x9 = ((m : Nat) : Int) := by omega
    have hm : m < es.length := by omega
    have hl : acc.length ≤ es.length := by rw [he, List.length_reverse, List.length_drop]; omega
    refine Ev.step (fun k => meanderlaw09_ValidNumbers_Num2.l0.eq_2 _ _ _ _ _ _ _ _ k) (ev_pos (by omega) (ev_pos (by omega) (ev_pos hb (ev_pos (by omega) ?_))))
    rw [w_id (by omega) (by omega), e9, rdE hm]
    refine ih _ _ (by omega) (by omega) (by omega) ?_
    rw [he, List.drop_eq_getElem_cons hm, List.reverse_cons]
theorem num2_s (ns : List S23) (es : List S36) (x1 x2 : Int) (hw : Go.bits .and .i64 x2 3 = 2) : Ev (fun k => meanderlaw09_ValidNumbers_Num2.f k ns es x1 x2) true := by
  unfold meanderlaw09_ValidNumbers_Num2.f
  refine Ev.bind shown9_s (ev_bind (few9_s ns es) ?_)
  dsimp only
  refine Ev.bind (graph_s _ _) ?_
  have yes : ∀ a b, Ev (fun k => meanderlaw09_ValidNumbers_Num2.j0 k x1 x2 true true a b) true := fun a b => Ev.step (fun k => meanderlaw09_ValidNumbers_Num2.j0.eq_2 _ _ _ _ _ _ k) (ev_pos rfl (ev_some rfl))
  by_cases hg : graphS (ns.take 14) (es.take 26) = 0
  · refine ev_pos hg ?_
    by_cases h0 : x1 < 0
    · exact ev_pos h0 (yes _ _)
    refine ev_neg h0 ?_
    by_cases h1 : x1 ≥ ((ns.take 14).length : Int)
    · rw [decide_eq_true h1]; exact yes _ _
    · rw [decide_eq_false h1]
      have hA := graphS_accept.1 hg
      have hz := hA.size
      unfold SizeP at hz
      refine Ev.step (fun k => meanderlaw09_ValidNumbers_Num2.j0.eq_2 _ _ _ _ _ _ k) (ev_neg (by simp) ?_)
      rw [w_id (by omega) (by omega)]
      refine num2_l0 _ _ x1 x2 hA (by omega) (by omega) hw (es.take 26).length _ _ (by omega) (by omega) (by omega) ?_
      rw [List.drop_length]; rfl
  · exact ev_neg hg (yes _ _)
theorem num3_l0 (ns : List S23) (es : List S36) (x1 x2 : Int) (hA : Accept ns es) (h0 : 0 ≤ x1) (h1 : x1 < (ns.length : Int)) (hw : Go.bits .and .i64 x2 3 = 3) (m : Nat) : ∀ (x9 : Int) (acc : List S36), -1 ≤ x9 → x9 < (es.length : Int) → x9 + 1 = m → acc = (es.drop m).reverse →
    Ev (fun k => meanderlaw09_ValidNumbers_Num3.l0 k x1 x2 true x9 ns es ns acc) true := by
  have hz := hA.size
  unfold SizeP at hz
  induction m with
  | zero =>
    intro x9 acc ha hb hc he
    refine Ev.step (fun k => meanderlaw09_ValidNumbers_Num3.l0.eq_2 _ _ _ _ _ _ _ _ k) (ev_neg (by omega) (ev_bind rfl (ev_pos (by simp; omega) (ev_bind rfl ?_))))
    rw [List.drop_zero] at he
    simp only [List.nil_append]
    have hg : graphS ns acc = 0 := by rw [he]; exact graphS_accept.2 (accept_reverse hA)
    have hbad : graphS (ns.set x1.toNat (⟨(rd_T23 ns x1).f0, (rd_T23 ns x1).f1, 5000, (rd_T23 ns x1).f3⟩ : S23)) es = 10 := bad_node hA _ (by omega) _ (b_big _ _ _)
    refine (ev_neg (by rw [hw]; decide) (ev_neg (by rw [hw]; decide) (ev_neg (by rw [hw]; decide) (ev_pos hw (ev_pos h0 (ev_pos h1 (ev_pos trivial ?_)))))))
    have g1 := graph_s ns acc
    rw [hg] at g1
    have g2 := graph_s (ns.set x1.toNat (⟨(rd_T23 ns x1).f0, (rd_T23 ns x1).f1, 5000, (rd_T23 ns x1).f3⟩ : S23)) es
    rw [hbad] at g2
    exact Ev.bind g1 (ev_pos rfl (Ev.bind g2 (ev_some rfl)))
  | succ m ih =>
    intro x9 acc ha hb hc he
    have e9 : x9 = ((m : Nat) : Int) := by omega
    have hm : m < es.length := by omega
    have hl : acc.length ≤ es.length := by rw [he, List.length_reverse, List.length_drop]; omega
    refine Ev.step (fun k => meanderlaw09_ValidNumbers_Num3.l0.eq_2 _ _ _ _ _ _ _ _ k) (ev_pos (by omega) (ev_pos (by omega) (ev_pos hb (ev_pos (by omega) ?_))))
    rw [w_id (by omega) (by omega), e9, rdE hm]
    refine ih _ _ (by omega) (by omega) (by omega) ?_
    rw [he, List.drop_eq_getElem_cons hm, List.reverse_cons]
theorem num3_s (ns : List S23) (es : List S36) (x1 x2 : Int) (hw : Go.bits .and .i64 x2 3 = 3) : Ev (fun k => meanderlaw09_ValidNumbers_Num3.f k ns es x1 x2) true := by
  unfold meanderlaw09_ValidNumbers_Num3.f
  refine Ev.bind shown9_s (ev_bind (few9_s ns es) ?_)
  dsimp only
  refine Ev.bind (graph_s _ _) ?_
  have yes : ∀ a b, Ev (fun k => meanderlaw09_ValidNumbers_Num3.j0 k x1 x2 true true a b) true := fun a b => Ev.step (fun k => meanderlaw09_ValidNumbers_Num3.j0.eq_2 _ _ _ _ _ _ k) (ev_pos rfl (ev_some rfl))
  by_cases hg : graphS (ns.take 14) (es.take 26) = 0
  · refine ev_pos hg ?_
    by_cases h0 : x1 < 0
    · exact ev_pos h0 (yes _ _)
    refine ev_neg h0 ?_
    by_cases h1 : x1 ≥ ((ns.take 14).length : Int)
    · rw [decide_eq_true h1]; exact yes _ _
    · rw [decide_eq_false h1]
      have hA := graphS_accept.1 hg
      have hz := hA.size
      unfold SizeP at hz
      refine Ev.step (fun k => meanderlaw09_ValidNumbers_Num3.j0.eq_2 _ _ _ _ _ _ k) (ev_neg (by simp) ?_)
      rw [w_id (by omega) (by omega)]
      refine num3_l0 _ _ x1 x2 hA (by omega) (by omega) hw (es.take 26).length _ _ (by omega) (by omega) (by omega) ?_
      rw [List.drop_length]; rfl
  · exact ev_neg hg (yes _ _)
theorem numbers_walk {W : World} (G : GOpen.Graph W) (a : Int) (wa : (Lit.int .i64 a).wf = true) (b : Int) (wb : (Lit.int .i64 b).wf = true) : Calls Try.prog 7 #[G.v, .int .i64 a, .int .i64 b] W fun e w' => e = .returned (.bool true) ∧ Below W.heap.size W w' := by
  rcases and_three b with h | h | h | h
  · obtain ⟨k, hk⟩ := (num0_s G.l0 G.l1 a b h).rounds
    exact meanderlaw09_ValidNumbers_Num0.calls k G.A0 G.c0 G.l0 G.A1 G.c1 G.l1 a b true W G.r0 G.h0 G.r1 G.h1 hk
  · obtain ⟨k, hk⟩ := (num1_s G.l0 G.l1 a b h).rounds
    exact meanderlaw09_ValidNumbers_Num1.calls k G.A0 G.c0 G.l0 G.A1 G.c1 G.l1 a b true W G.r0 G.h0 G.r1 G.h1 hk
  · obtain ⟨k, hk⟩ := (num2_s G.l0 G.l1 a b h).rounds
    exact meanderlaw09_ValidNumbers_Num2.calls k G.A0 G.c0 G.l0 G.A1 G.c1 G.l1 a b true W G.r0 G.h0 G.r1 G.h1 hk
  · obtain ⟨k, hk⟩ := (num3_s G.l0 G.l1 a b h).rounds
    exact meanderlaw09_ValidNumbers_Num3.calls k G.A0 G.c0 G.l0 G.A1 G.c1 G.l1 a b true W G.r0 G.h0 G.r1 G.h1 hk
end Go.Proofs.Ytjlnjlnecipllaa.Hand
