/- The walk of the statement WindowHas: at any two numbers, any epoch, any window, it returns true and nothing that was there is turned. Conditions: none but the kinds of the arguments. -/
import Derived.IntWalk
import Derived.Test.YtgolagccgndidaaPAllx1
import Derived.Test.YtgolagccgndidaaPAllx2
import Derived.Test.YtgolagccgndidaaWin
namespace Go.Proofs.Ytgolagccgndidaa.Hand
open Go.RowKit Go.Proofs.YtgolagccgndidaaW.PrintWords Go.Proofs.YtgolagccgndidaaW.PrintLast Go.Proofs.YtgolagccgndidaaW.PrintMore
open Go.Proofs.Ytgolagccgndidaa.PAll Go.Proofs.Ytgolagccgndidaa.Pure
attribute [local go_sem] max2_int min2_int max_two min_two max_three min_three max_four min_four
set_option linter.unusedVariables false
set_option linter.unusedSimpArgs false
theorem quiet_drawn {P : Program} {f : FuncId} {args : Array Value} {w : World} {n : Nat} {v : Value}
    (h : Calls P f args (w.drewN n) fun e w' => e = .returned v ∧ Drawn0 (w.drewN n) w') : Calls P f args (w.drewN n) fun e w'' => e = .returned v ∧ ∃ m, w'' = w.drewN m :=
  Calls.quiet_of (h.mono fun _ _ h => ⟨h.1, h.2.out⟩)
set_option maxHeartbeats 1000000 in
set_option maxRecDepth 100000 in
theorem has_no (a b ep k : Int) (w : World) (K : Nat) (hsh : meanderlaw07_shown.f K = some true) (hof : window_Of.f K a b ep = some []) (hno : ¬ Ok a b ep) (hlast : window_Last.f a b k = some (lastS a b k)) :
    Calls Try.prog 5 #[.int .i64 a, .int .i64 b, .agg #[.int .i64 ep, .int .i64 k]] w fun e w' => e = .returned (.bool true) ∧ Below w.heap.size w w' := by
  have HS := Aside0.mk hsh
  have HF := Aside0.mk hof
  have HL := Aside0.mk hlast
  have HM := Aside0.mk (may_s a b)
  have HB := Aside0.mk (Below.refl w.heap.size w)
  have HN := Aside0.mk hno
  clear hsh hof hlast hno
  by_cases hm : May a b
  · rw [decide_eq_true hm] at HM
    have he : ep < 0 ∨ 1048576 < ep := by
      have h1 := HN.out
      rcases Int.lt_or_le ep 0 with h | h
      · exact .inl h
      · rcases Int.lt_or_le 1048576 ep with h' | h'
        · exact .inr h'
        · exact absurd ⟨hm, h, h'⟩ h1
    clear hm HN
    rcases Int.lt_or_le ep 0 with h | h
    · have hd : decide (ep < 0) = true := decide_eq_true h
      clear he
      go_enter Try.func5, Try.ntmps5
      go_wp2_with (first
      | (go_at_call 9; (with_reducible refine (meanderlaw07_shown.calls K true _ HS.out).mono ?_); rintro e w5 ⟨rfl, hb⟩; have BK := Aside0.mk (blk_below (blk_new w (.cells #[.int .i64 ep, .int .i64 k] 30 (0, 0))) hb); have n1_ := Aside0.mk (below_step (below_alloc HB.out _) hb); clear HB hb; have HB := n1_; clear n1_; have hc0 : w5.cell? ⟨w.heap.size, 0, none⟩ = some (.int .i64 ep) := (blk_cell BK.out 0).trans rfl; have hc1 : w5.cell? ⟨w.heap.size, 1, none⟩ = some (.int .i64 k) := (blk_cell BK.out 1).trans rfl)
      | (go_at_call 11; (with_reducible refine (window_Of.calls K a b ep [] _ HF.out).mono ?_); rintro e w6 ⟨v138, rfl, ho0, hb⟩; have n1_ := Aside0.mk (below_step HB.out hb); have HBo := HB; clear HB hc0 hc1 hb; have HB := n1_; clear n1_; have HO := Aside0.mk ho0; clear ho0; obtain ⟨Ao, co, eo⟩ := Kd.R_slice HO.out; subst eo; have HO := Aside0.mk (Kd.R_lower HO.out (below_size HBo.out)); clear HBo)
      | (go_at_call 15; (with_reducible refine (window_May.calls a b true _ HM.out).mono ?_); rintro e w' ⟨rfl, ⟨nd, rfl⟩⟩))
      go_ret
      exact ⟨rfl, pw_below_drewN HB.out _⟩
    · have hd : decide (ep < 0) = false := decide_eq_false (by omega)
      have hd2 : decide (1048576 < ep) = true := decide_eq_true (by omega)
      clear he h
      go_enter Try.func5, Try.ntmps5
      go_wp2_with (first
      | (go_at_call 9; (with_reducible refine (meanderlaw07_shown.calls K true _ HS.out).mono ?_); rintro e w5 ⟨rfl, hb⟩; have BK := Aside0.mk (blk_below (blk_new w (.cells #[.int .i64 ep, .int .i64 k] 30 (0, 0))) hb); have n1_ := Aside0.mk (below_step (below_alloc HB.out _) hb); clear HB hb; have HB := n1_; clear n1_; have hc0 : w5.cell? ⟨w.heap.size, 0, none⟩ = some (.int .i64 ep) := (blk_cell BK.out 0).trans rfl; have hc1 : w5.cell? ⟨w.heap.size, 1, none⟩ = some (.int .i64 k) := (blk_cell BK.out 1).trans rfl)
      | (go_at_call 11; (with_reducible refine (window_Of.calls K a b ep [] _ HF.out).mono ?_); rintro e w6 ⟨v138, rfl, ho0, hb⟩; have n1_ := Aside0.mk (below_step HB.out hb); have HBo := HB; clear HB hc0 hc1 hb; have HB := n1_; clear n1_; have HO := Aside0.mk ho0; clear ho0; obtain ⟨Ao, co, eo⟩ := Kd.R_slice HO.out; subst eo; have HO := Aside0.mk (Kd.R_lower HO.out (below_size HBo.out)); clear HBo)
      | (go_at_call 15; (with_reducible refine (window_May.calls a b true _ HM.out).mono ?_); rintro e w' ⟨rfl, ⟨nd, rfl⟩⟩))
      go_ret
      exact ⟨rfl, pw_below_drewN HB.out _⟩
  · have hl : lastS a b k = -1 := if_neg (fun h => hm h.1)
    rw [hl] at HL
    rw [decide_eq_false hm] at HM
    clear hm hl
    go_enter Try.func5, Try.ntmps5
    go_wp2_with (first
      | (go_at_call 9; (with_reducible refine (meanderlaw07_shown.calls K true _ HS.out).mono ?_); rintro e w5 ⟨rfl, hb⟩; have BK := Aside0.mk (blk_below (blk_new w (.cells #[.int .i64 ep, .int .i64 k] 30 (0, 0))) hb); have n1_ := Aside0.mk (below_step (below_alloc HB.out _) hb); clear HB hb; have HB := n1_; clear n1_; have hc0 : w5.cell? ⟨w.heap.size, 0, none⟩ = some (.int .i64 ep) := (blk_cell BK.out 0).trans rfl; have hc1 : w5.cell? ⟨w.heap.size, 1, none⟩ = some (.int .i64 k) := (blk_cell BK.out 1).trans rfl)
      | (go_at_call 11; (with_reducible refine (window_Of.calls K a b ep [] _ HF.out).mono ?_); rintro e w6 ⟨v138, rfl, ho0, hb⟩; have n1_ := Aside0.mk (below_step HB.out hb); have HBo := HB; clear HB hc0 hc1 hb; have HB := n1_; clear n1_; have HO := Aside0.mk ho0; clear ho0; obtain ⟨Ao, co, eo⟩ := Kd.R_slice HO.out; subst eo; have HO := Aside0.mk (Kd.R_lower HO.out (below_size HBo.out)); clear HBo)
      | (go_at_call 15; (with_reducible refine (window_May.calls a b false _ HM.out).mono ?_); rintro e w' ⟨rfl, ⟨nd, rfl⟩⟩)
      | (go_at_call 19; (with_reducible refine (window_Last.calls a b k (-1) _ HL.out).mono ?_); rintro e w' ⟨rfl, ⟨nd, rfl⟩⟩))
    go_ret
    exact ⟨rfl, pw_below_drewN HB.out _⟩

theorem has_many {a b e : Int} (hm : May a b) (h0 : 0 ≤ e) : 1 ≤ manyS a b e ∧ (manyS a b e : Int) ≤ (a + b - 1) / b ∧ (a = b → manyS a b e = 1) := by
  obtain ⟨h1, h2, h3, h4⟩ := hm
  unfold manyS lowS
  rcases b_cases h3 (by omega) with h | h | h | h | h | h | h | h | h | h | h | h | h | h | h | h | h | h | h | h
  all_goals subst h
  all_goals split
  all_goals omega
set_option maxHeartbeats 4000000 in
set_option maxRecDepth 100000 in
theorem has_ok (a b ep k : Int) (w : World) (K : Nat) (hsh : meanderlaw07_shown.f K = some true) (xs : List Int) (hof : window_Of.f K a b ep = some xs) (hok : Ok a b ep) (hxs : xs = iota (lowS a b ep) (manyS a b ep)) (hlast : window_Last.f a b k = some (lastS a b k)) :
    Calls Try.prog 5 #[.int .i64 a, .int .i64 b, .agg #[.int .i64 ep, .int .i64 k]] w fun e w' => e = .returned (.bool true) ∧ Below w.heap.size w w' := by
  have HS := Aside0.mk hsh
  have HF := Aside0.mk hof
  have HL := Aside0.mk hlast
  have HM := Aside0.mk (may_s a b)
  have HB := Aside0.mk (Below.refl w.heap.size w)
  have HN := Aside0.mk hok
  have HX := Aside0.mk hxs
  rw [decide_eq_true hok.1] at HM
  have hd1 : decide (ep < 0) = false := decide_eq_false (by have := hok.2; omega)
  have hd2 : decide (1048576 < ep) = false := decide_eq_false (by have := hok.2; omega)
  clear hsh hof hlast hxs hok
  go_enter Try.func5, Try.ntmps5
  go_wp2_with (first
      | (go_at_call 9; (with_reducible refine (meanderlaw07_shown.calls K true _ HS.out).mono ?_); rintro e w5 ⟨rfl, hb⟩; have BK := Aside0.mk (blk_below (blk_new w (.cells #[.int .i64 ep, .int .i64 k] 30 (0, 0))) hb); have n1_ := Aside0.mk (below_step (below_alloc HB.out _) hb); clear HB hb; have HB := n1_; clear n1_; have hc0 : w5.cell? ⟨w.heap.size, 0, none⟩ = some (.int .i64 ep) := (blk_cell BK.out 0).trans rfl; have hc1 : w5.cell? ⟨w.heap.size, 1, none⟩ = some (.int .i64 k) := (blk_cell BK.out 1).trans rfl)
      | (go_at_call 11; (with_reducible refine (window_Of.calls K a b ep xs _ HF.out).mono ?_); rintro e w6 ⟨v138, rfl, ho0, hb⟩; have n1_ := Aside0.mk (below_step HB.out hb); have HBo := HB; clear HB hc0 hc1 hb; have HB := n1_; clear n1_; have HO := Aside0.mk ho0; clear ho0; obtain ⟨Ao, co, eo⟩ := Kd.R_slice HO.out; subst eo; have HO := Aside0.mk (Kd.R_lower HO.out (below_size HBo.out)); clear HBo)
      | (go_at_call 15; (with_reducible refine (window_May.calls a b true _ HM.out).mono ?_); rintro e w' ⟨rfl, ⟨nd, rfl⟩⟩))
  clear HS HF HM hd1 hd2
  have hok := HN.out
  have hlow := low_facts hok.1 hok.2.1
  have hmn := has_many hok.1 hok.2.1
  have hl : xs.length = manyS a b ep := by rw [HX.out, iota_length]
  have HH := Aside0.mk (And.intro hlow (And.intro hmn hl))
  clear hlow hmn hl hok
  go_loopg [11, 12] (manyS a b ep + 1) (fun kq v11 v12 w' => ∃ (i : Int) (fnd : Bool), v11 = .bool fnd ∧ v12 = .int .i64 i ∧ Aside0 (0 ≤ i ∧ i + kq = manyS a b ep + 1 ∧ fnd = decide (lowS a b ep ≤ k ∧ k < lowS a b ep + i) ∧ 1 ≤ kq) ∧ Aside0 (Below w.heap.size w w') ∧ Aside0 (Kd.R (Kd.int .i64) 3 w' w.heap.size (fun _ => True) (.slice Ao xs.length co) xs))
  case atStart => exact ⟨0, false, rfl, rfl, ⟨by omega, by omega, by rw [eq_comm, decide_eq_false_iff_not]; omega, by omega⟩, ⟨pw_below_drewN HB.out _⟩, ⟨Kd.R_drewN HO.out _⟩⟩
  case round =>
    clear HO HB
    obtain ⟨i, fnd, rfl, rfl, HI, HB, HO⟩ := hrel
    by_cases hi : i < (manyS a b ep : Int)
    · have hI := HI.out
      have hI2 := hI.2.1
      have hI3 := hI.2.2.2
      have hH := HH.out
      have hok := HN.out
      have hlx : xs.length = manyS a b ep := hH.2.2
      have hok2 := hok.2
      have hmE : (manyS a b ep : Int) = ep / b - lowS a b ep + 1 := by have := hH.1; unfold manyS; omega
      have hlt : decide (i < (xs.length : Int)) = true := decide_eq_true (by omega)
      have hge0 : decide (0 ≤ i) = true := decide_eq_true hI.1
      have hgep := eq_true hI.1
      have hlti : (i < (xs.length : Int)) = True := eq_true (by omega)
      obtain ⟨g, cap, eo, gb, gl, HG⟩ := Kd.R_form HO.out (by omega)
      (first | cases eo | (injection eo with ea_ en_ ec_; (first | subst ea_ | (injection ea_ with ea_; subst ea_)); subst ec_; clear en_))
      obtain ⟨hx0', hf0⟩ := Kd.R_celln 0 HO.out i hI.1 (by omega)
      have hxv : rdOf 0 xs i = lowS a b ep + i := by rw [HX.out]; exact rd_iota _ _ _ hI.1 (by omega)
      rw [hxv] at hx0'
      have hwin := (has_iff hok.1 hok.2.1 (k := lowS a b ep + i) (by omega)).2 (by omega)
      have hq1 : decide (lowS a b ep + i < 0) = false := decide_eq_false (by omega)
      have hFI := Aside0.mk (first_s b (lowS a b ep + i))
      have hLA := Aside0.mk (last_s a b (lowS a b ep + i) (by have := hok.1.1; omega) (by have := hok.1.2.1; omega))
      have hab := id hok.1; unfold May at hab
      rw [show firstS b (lowS a b ep + i) = b * (lowS a b ep + i) from if_pos (by omega)] at hFI
      rw [lastS_in hok.1 (by omega) (by omega)] at hLA
      have hq2 : decide (ep < b * (lowS a b ep + i)) = false := decide_eq_false (by omega)
      have hq3 : decide (b * (lowS a b ep + i) + a - 1 < ep) = false := decide_eq_false (by omega)
      obtain ⟨y, hy⟩ : ∃ y, y = lowS a b ep + i := ⟨_, rfl⟩
      obtain ⟨z1, hz1⟩ : ∃ z1, z1 = b * y := ⟨_, rfl⟩
      obtain ⟨z2, hz2⟩ : ∃ z2, z2 = b * y + a - 1 := ⟨_, rfl⟩
      rw [← hy] at hx0' hq1 hFI hLA hq2 hq3
      rw [← hz1] at hFI hq2
      rw [← hz2] at hLA hq3
      have HY := Aside0.mk (And.intro hy (And.intro hz1 hz2))
      clear hy hz1 hz2
      have hw1 : wrap64 (i + 1) = i + 1 := w_id (by omega) (by omega)
      have HW := Aside0.mk hw1
      have hp : ∀ (q : 0 < i), ∃ u, wr.cell? ⟨g, (i - 1).toNat, none⟩ = some (.int .i64 u) ∧ u < y := by
        intro q
        obtain ⟨hx1, _⟩ := Kd.R_celln 0 HO.out (i - 1) (by omega) (by omega)
        have : rdOf 0 xs (i - 1) = lowS a b ep + (i - 1) := by rw [HX.out]; exact rd_iota _ _ _ (by omega) (by omega)
        rw [this] at hx1
        exact ⟨_, hx1, by have := HY.out.1; omega⟩
      have hib : i < 1000000 := by omega
      have HIK := Aside0.mk hi
      have hil : i < (xs.length : Int) := by omega
      clear hxv hwin hab hH hok hok2 hw1 hmE
      cases gk with
      | zero => omega
      | succ k1 =>
        clear hI hI2 hI3 hlx hi
        by_cases hp0 : 0 < i
        · obtain ⟨u, hu, huy⟩ := hp hp0
          have hd0 : decide (0 < i) = true := decide_eq_true hp0
          have hduy : decide (y ≤ u) = false := decide_eq_false (by omega)
          obtain ⟨j, hj⟩ : ∃ j, j = i - 1 := ⟨_, rfl⟩
          rw [← hj] at hu
          have hsub : IntKind.i64.wrap (i - 1) = j := by rw [IntWalk.i64_in _ (by omega)]; exact hj.symm
          have hs1 : (0 ≤ j) = True := eq_true (by omega)
          have hs2 : (j < (xs.length : Int)) = True := eq_true (by omega)
          have HJ := Aside0.mk hj
          clear hj
          clear hp hp0 huy
          cases fnd with
          | true =>
            go_wp2_with (fail)
            go_quiet ((first
              | (go_at_call 17; exact quiet_drawn (window_First.calls b y z1 _ hFI.out))
              | (go_at_call 19; exact quiet_drawn (window_Last.calls a b y z2 _ hLA.out))))
            go_wp2
            go_roundg k1
            case measure => omega
            case rel =>
              have h1 := HI.out
              have h9 := HIK.out
              have h2 := HY.out.1
              refine ⟨i + 1, _, rfl, by first | rfl | (rw [HW.out]) | go_num, ⟨by omega, by omega, ?_, by omega⟩, ⟨pw_below_drewN HB.out _⟩, ⟨Kd.R_drewN HO.out _⟩⟩
              have h3 := of_decide_eq_true h1.2.2.1.symm
              exact (decide_eq_true (by omega)).symm
          | false =>
            go_wp2_with (fail)
            go_quiet ((first
              | (go_at_call 17; exact quiet_drawn (window_First.calls b y z1 _ hFI.out))
              | (go_at_call 19; exact quiet_drawn (window_Last.calls a b y z2 _ hLA.out))))
            go_wp2
            go_roundg k1
            case measure => omega
            case rel =>
              have h1 := HI.out
              have h9 := HIK.out
              have h2 := HY.out.1
              refine ⟨i + 1, _, rfl, by first | rfl | (rw [HW.out]) | go_num, ⟨by omega, by omega, ?_, by omega⟩, ⟨pw_below_drewN HB.out _⟩, ⟨Kd.R_drewN HO.out _⟩⟩
              have h3 := of_decide_eq_false h1.2.2.1.symm
              rw [Bool.eq_iff_iff, decide_eq_true_eq]
              simp only [beq_iff_eq]
              omega
        · have hd0 : decide (0 < i) = false := decide_eq_false hp0
          clear hp hp0
          cases fnd with
          | true =>
            go_wp2_with (fail)
            go_quiet ((first
              | (go_at_call 17; exact quiet_drawn (window_First.calls b y z1 _ hFI.out))
              | (go_at_call 19; exact quiet_drawn (window_Last.calls a b y z2 _ hLA.out))))
            go_wp2
            go_roundg k1
            case measure => omega
            case rel =>
              have h1 := HI.out
              have h9 := HIK.out
              have h2 := HY.out.1
              refine ⟨i + 1, _, rfl, by first | rfl | (rw [HW.out]) | go_num, ⟨by omega, by omega, ?_, by omega⟩, ⟨pw_below_drewN HB.out _⟩, ⟨Kd.R_drewN HO.out _⟩⟩
              have h3 := of_decide_eq_true h1.2.2.1.symm
              exact (decide_eq_true (by omega)).symm
          | false =>
            go_wp2_with (fail)
            go_quiet ((first
              | (go_at_call 17; exact quiet_drawn (window_First.calls b y z1 _ hFI.out))
              | (go_at_call 19; exact quiet_drawn (window_Last.calls a b y z2 _ hLA.out))))
            go_wp2
            go_roundg k1
            case measure => omega
            case rel =>
              have h1 := HI.out
              have h9 := HIK.out
              have h2 := HY.out.1
              refine ⟨i + 1, _, rfl, by first | rfl | (rw [HW.out]) | go_num, ⟨by omega, by omega, ?_, by omega⟩, ⟨pw_below_drewN HB.out _⟩, ⟨Kd.R_drewN HO.out _⟩⟩
              have h3 := of_decide_eq_false h1.2.2.1.symm
              rw [Bool.eq_iff_iff, decide_eq_true_eq]
              simp only [beq_iff_eq]
              omega
    · have hI := HI.out
      have hI2 := hI.2.1
      have hI3 := hI.2.2.2
      have hH := HH.out
      have hok := HN.out
      have hok2 := hok.2
      have hab := id hok.1; unfold May at hab
      have hlx : xs.length = manyS a b ep := hH.2.2
      have hmE : (manyS a b ep : Int) = ep / b - lowS a b ep + 1 := by have := hH.1; unfold manyS; omega
      cases gk with
      | zero => omega
      | succ k1 =>
        have hlt : decide (i < (xs.length : Int)) = false := decide_eq_false (by omega)
        have hFI := Aside0.mk (first_s b k)
        have hd3 : decide (1 ≤ (xs.length : Int)) = true := decide_eq_true (by omega)
        have hd3' : decide (1 ≤ xs.length) = true := decide_eq_true (by omega)
        obtain ⟨Q, hQ0⟩ : ∃ Q, Q = (a + b - 1) / b := ⟨_, rfl⟩
        have hQm := hH.2.1.2.1
        have hQb : (a + b - 1) / b ≤ a + b - 1 := Int.ediv_le_self _ (by omega)
        have hQ : wrap64 ((a + b - 1).tdiv b) = Q := by rw [Int.tdiv_eq_ediv_of_nonneg (by omega), hQ0]; exact w_id (by omega) (by omega)
        have hd4 : decide ((xs.length : Int) ≤ Q) = true := decide_eq_true (by omega)
        have hb0 : (b = 0) = False := eq_false (by omega)
        clear hQ0 hQm hQb
        have hs1 : IntKind.i64.wrap (a + b) = a + b := IntWalk.i64_in _ (by omega)
        have hs2 : IntKind.i64.wrap (a + b - 1) = a + b - 1 := IntWalk.i64_in _ (by omega)
        have hiff := has_iff hok.1 hok.2.1 (k := k)
        have hz : i = manyS a b ep := by omega
        clear hi
        have hI3 := hI.2.2.2
        obtain ⟨z1, hz1⟩ : ∃ z, z = firstS b k := ⟨_, rfl⟩
        obtain ⟨z2, hz2⟩ : ∃ z, z = lastS a b k := ⟨_, rfl⟩
        have hF := hFI.out
        have hL := HL.out
        rw [← hz1] at hF
        rw [← hz2] at hL
        clear hFI HL
        have hFI := Aside0.mk hF
        have HL := Aside0.mk hL
        clear hF hL
        by_cases hin : 0 ≤ k ∧ k ≤ 1048576
        · have hb1 := mul_bd (b := b) (k := k) (by omega) (by omega) hin.1 hin.2
          have hp1 : z1 = b * k := by rw [hz1]; exact if_pos (by omega)
          have hp2 : z2 = z1 + a - 1 := by rw [hz2, lastS_in hok.1 hin.1 hin.2, hp1]
          have hp3 : 0 ≤ z1 := by omega
          have hs3 : IntKind.i64.wrap (z2 - z1) = a - 1 := by rw [IntWalk.i64_in _ (by omega)]; omega
          have hs3' : ((z2 - z1 : Int) == a - 1) = true := by rw [beq_iff_eq]; omega
          have hs4 : IntKind.i64.wrap (a - 1) = a - 1 := IntWalk.i64_in _ (by omega)
          have hz1b : z1 ≤ 20971520 := by omega
          have hz2b : 0 ≤ z2 := by omega
          have hz2c : z2 ≤ 20971540 := by omega
          have hg0 : decide (0 ≤ z1) = true := decide_eq_true hp3
          have hg1 : decide (z1 < 0) = false := decide_eq_false (by omega)
          have hiff := hiff hin.1
          rw [← hp1] at hiff
          by_cases hft : fnd = true
          · subst hft
            have hx := of_decide_eq_true hI.2.2.1.symm
            have hy := hiff.2 (by omega)
            have hg2 : decide (z1 ≤ ep) = true := decide_eq_true hy.1
            have hg3 : decide (ep ≤ z2) = true := decide_eq_true (by omega)
            clear hx hy hz1 hz2 hin hb1
            by_cases hab2 : a = b
            · have hne : ((a : Int) != b) = false := by rw [bne_eq_false_iff_eq]; exact hab2
              have hne2 : ((a : Int) == b) = true := by rw [beq_iff_eq]; exact hab2
              have hl1 : ((xs.length : Int) == 1) = true := by rw [beq_iff_eq]; have := hH.2.1.2.2 hab2; omega
              have hl1' : (xs.length == 1) = true := by rw [beq_iff_eq]; have := hH.2.1.2.2 hab2; omega
              clear hI hI2 hI3 hH hok hok2 hab hlx hmE hiff hz hab2 hp1 hp2 hp3
              go_wp2_with (first
                | (go_at_call 17; (with_reducible refine (window_First.calls b k z1 _ hFI.out).mono ?_); rintro e w' ⟨rfl, ⟨nd, rfl⟩⟩)
                | (go_at_call 19; (with_reducible refine (window_Last.calls a b k z2 _ HL.out).mono ?_); rintro e w' ⟨rfl, ⟨nd, rfl⟩⟩))
              go_ret
              exact ⟨rfl, pw_below_drewN HB.out _⟩
            · have hne : ((a : Int) != b) = true := by rw [bne_iff_ne]; exact hab2
              have hne2 : ((a : Int) == b) = false := by rw [beq_eq_false_iff_ne]; exact hab2
              clear hI hI2 hI3 hH hok hok2 hab hlx hmE hiff hz hab2 hp1 hp2 hp3
              go_wp2_with (first
                | (go_at_call 17; (with_reducible refine (window_First.calls b k z1 _ hFI.out).mono ?_); rintro e w' ⟨rfl, ⟨nd, rfl⟩⟩)
                | (go_at_call 19; (with_reducible refine (window_Last.calls a b k z2 _ HL.out).mono ?_); rintro e w' ⟨rfl, ⟨nd, rfl⟩⟩))
              go_ret
              exact ⟨rfl, pw_below_drewN HB.out _⟩
          · have hff : fnd = false := Bool.eq_false_iff.mpr hft
            subst hff
            clear hft
            have hx := of_decide_eq_false hI.2.2.1.symm
            by_cases hle : z1 ≤ ep
            · have hg2 : decide (z1 ≤ ep) = true := decide_eq_true hle
              have hg3 : decide (ep ≤ z2) = false := decide_eq_false (fun h => hx (by have := hiff.1 ⟨hle, by omega⟩; omega))
              clear hx hz1 hz2 hin hb1 hle
              by_cases hab2 : a = b
              · have hne : ((a : Int) != b) = false := by rw [bne_eq_false_iff_eq]; exact hab2
                have hne2 : ((a : Int) == b) = true := by rw [beq_iff_eq]; exact hab2
                have hl1 : ((xs.length : Int) == 1) = true := by rw [beq_iff_eq]; have := hH.2.1.2.2 hab2; omega
                have hl1' : (xs.length == 1) = true := by rw [beq_iff_eq]; have := hH.2.1.2.2 hab2; omega
                clear hI hI2 hI3 hH hok hok2 hab hlx hmE hiff hz hab2 hp1 hp2 hp3
                go_wp2_with (first
                  | (go_at_call 17; (with_reducible refine (window_First.calls b k z1 _ hFI.out).mono ?_); rintro e w' ⟨rfl, ⟨nd, rfl⟩⟩)
                  | (go_at_call 19; (with_reducible refine (window_Last.calls a b k z2 _ HL.out).mono ?_); rintro e w' ⟨rfl, ⟨nd, rfl⟩⟩))
                go_ret
                exact ⟨rfl, pw_below_drewN HB.out _⟩
              · have hne : ((a : Int) != b) = true := by rw [bne_iff_ne]; exact hab2
                have hne2 : ((a : Int) == b) = false := by rw [beq_eq_false_iff_ne]; exact hab2
                clear hI hI2 hI3 hH hok hok2 hab hlx hmE hiff hz hab2 hp1 hp2 hp3
                go_wp2_with (first
                  | (go_at_call 17; (with_reducible refine (window_First.calls b k z1 _ hFI.out).mono ?_); rintro e w' ⟨rfl, ⟨nd, rfl⟩⟩)
                  | (go_at_call 19; (with_reducible refine (window_Last.calls a b k z2 _ HL.out).mono ?_); rintro e w' ⟨rfl, ⟨nd, rfl⟩⟩))
                go_ret
                exact ⟨rfl, pw_below_drewN HB.out _⟩
            · have hg2 : decide (z1 ≤ ep) = false := decide_eq_false hle
              clear hx hz1 hz2 hin hb1 hle
              by_cases hab2 : a = b
              · have hne : ((a : Int) != b) = false := by rw [bne_eq_false_iff_eq]; exact hab2
                have hne2 : ((a : Int) == b) = true := by rw [beq_iff_eq]; exact hab2
                have hl1 : ((xs.length : Int) == 1) = true := by rw [beq_iff_eq]; have := hH.2.1.2.2 hab2; omega
                have hl1' : (xs.length == 1) = true := by rw [beq_iff_eq]; have := hH.2.1.2.2 hab2; omega
                clear hI hI2 hI3 hH hok hok2 hab hlx hmE hiff hz hab2 hp1 hp2 hp3
                go_wp2_with (first
                  | (go_at_call 17; (with_reducible refine (window_First.calls b k z1 _ hFI.out).mono ?_); rintro e w' ⟨rfl, ⟨nd, rfl⟩⟩)
                  | (go_at_call 19; (with_reducible refine (window_Last.calls a b k z2 _ HL.out).mono ?_); rintro e w' ⟨rfl, ⟨nd, rfl⟩⟩))
                go_ret
                exact ⟨rfl, pw_below_drewN HB.out _⟩
              · have hne : ((a : Int) != b) = true := by rw [bne_iff_ne]; exact hab2
                have hne2 : ((a : Int) == b) = false := by rw [beq_eq_false_iff_ne]; exact hab2
                clear hI hI2 hI3 hH hok hok2 hab hlx hmE hiff hz hab2 hp1 hp2 hp3
                go_wp2_with (first
                  | (go_at_call 17; (with_reducible refine (window_First.calls b k z1 _ hFI.out).mono ?_); rintro e w' ⟨rfl, ⟨nd, rfl⟩⟩)
                  | (go_at_call 19; (with_reducible refine (window_Last.calls a b k z2 _ HL.out).mono ?_); rintro e w' ⟨rfl, ⟨nd, rfl⟩⟩))
                go_ret
                exact ⟨rfl, pw_below_drewN HB.out _⟩
        · have hp1 : z1 = -1 := by rw [hz1]; exact if_neg (fun h => hin h.2.2)
          have hp2 : True := trivial
          have hp3 : True := trivial
          have hfn : fnd = false := by rw [hI.2.2.1]; exact decide_eq_false (by omega)
          subst hfn
          clear hz1 hz2 hin
          subst hp1
          by_cases hab2 : a = b
          · have hne : ((a : Int) != b) = false := by rw [bne_eq_false_iff_eq]; exact hab2
            have hne2 : ((a : Int) == b) = true := by rw [beq_iff_eq]; exact hab2
            have hl1 : ((xs.length : Int) == 1) = true := by rw [beq_iff_eq]; have := hH.2.1.2.2 hab2; omega
            have hl1' : (xs.length == 1) = true := by rw [beq_iff_eq]; have := hH.2.1.2.2 hab2; omega
            clear hI hI2 hI3 hH hok hok2 hab hlx hmE hiff hz hab2 hp2 hp3
            go_wp2_with (first
              | (go_at_call 17; (with_reducible refine (window_First.calls b k (-1) _ hFI.out).mono ?_); rintro e w' ⟨rfl, ⟨nd, rfl⟩⟩)
              | (go_at_call 19; (with_reducible refine (window_Last.calls a b k z2 _ HL.out).mono ?_); rintro e w' ⟨rfl, ⟨nd, rfl⟩⟩))
            go_ret
            exact ⟨rfl, pw_below_drewN HB.out _⟩
          · have hne : ((a : Int) != b) = true := by rw [bne_iff_ne]; exact hab2
            have hne2 : ((a : Int) == b) = false := by rw [beq_eq_false_iff_ne]; exact hab2
            clear hI hI2 hI3 hH hok hok2 hab hlx hmE hiff hz hab2 hp2 hp3
            go_wp2_with (first
              | (go_at_call 17; (with_reducible refine (window_First.calls b k (-1) _ hFI.out).mono ?_); rintro e w' ⟨rfl, ⟨nd, rfl⟩⟩)
              | (go_at_call 19; (with_reducible refine (window_Last.calls a b k z2 _ HL.out).mono ?_); rintro e w' ⟨rfl, ⟨nd, rfl⟩⟩))
            go_ret
            exact ⟨rfl, pw_below_drewN HB.out _⟩
theorem has_all (a b ep k : Int) (w : World) (ha : (Lit.int .i64 a).wf = true) : Calls Try.prog 5 #[.int .i64 a, .int .i64 b, .agg #[.int .i64 ep, .int .i64 k]] w fun e w' => e = .returned (.bool true) ∧ Below w.heap.size w w' := by
  have ha := bd ha
  obtain ⟨K1, h1⟩ := shown_s
  obtain ⟨K2, h2⟩ := of_s a b ep
  have h1 := h1 (K1 + K2) (by omega)
  have h2 := h2 (K1 + K2) (by omega)
  have h3 := last_s a b k ha.1 ha.2
  by_cases hok : Ok a b ep
  · exact has_ok a b ep k w (K1 + K2) h1 _ h2 hok (if_pos hok) h3
  · unfold ofS at h2
    rw [if_neg hok] at h2
    exact has_no a b ep k w (K1 + K2) h1 h2 hok h3
end Go.Proofs.Ytgolagccgndidaa.Hand
