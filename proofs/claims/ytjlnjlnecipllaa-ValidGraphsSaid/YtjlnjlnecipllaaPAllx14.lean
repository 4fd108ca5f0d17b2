-- Laid by hprint.py of this repo: the kit's printer, and contracts by hand beside it. Not trusted: Lean checks it.
import Derived.Test.YtjlnjlnecipllaaPAllx0
import Derived.Test.YtjlnjlnecipllaaPAllx10
namespace Go.Proofs.Ytjlnjlnecipllaa.PAll
open Go.RowKit Go.Proofs.YtjlnjlnecipllaaW.PrintWords Go.Proofs.YtjlnjlnecipllaaW.PrintLast Go.Proofs.YtjlnjlnecipllaaW.PrintMore
attribute [local go_sem] max2_int min2_int max_two min_two max_three min_three max_four min_four   -- for this text's walks alone
set_option linter.unusedVariables false
set_option linter.unusedSimpArgs false

/-! ### meanderref09_low: function 65 -/
def meanderref09_low.f (a0_0 : Int) (a0_1 : Int) (a0_2 : Int) (a0_3 : Int) : Option (Int) := (meanderref08_InDepth.f a0_0 a0_1 a0_2 a0_3).bind fun t267 => (some (mn t267 a0_3))
set_option maxHeartbeats 8000000 in
set_option maxRecDepth 100000 in
theorem meanderref09_low.calls (a0_0 : Int) (a0_1 : Int) (a0_2 : Int) (a0_3 : Int) (r : Int) (w : World) (h : meanderref09_low.f a0_0 a0_1 a0_2 a0_3 = some r) :
  Calls Try.prog 65 #[.agg #[.int .i64 a0_0, .int .i64 a0_1, .int .i64 a0_2, .int .i64 a0_3]] w fun e w' => e = .returned (.int .i64 r) ∧ Below w.heap.size w w' := by
 have hu23 := Try.underlying23
 have HB := Aside0.mk (Below.refl w.heap.size w)
 have H : ((meanderref08_InDepth.f a0_0 a0_1 a0_2 a0_3).bind fun t267 => (some (mn t267 a0_3))) = some r := h
 clear h
 replace H := Option.bind_eq_some_iff.mp H
 obtain ⟨t267, A20, H⟩ := H
 replace H : (some (mn t267 a0_3)) = some r := H
 have A2 := Aside0.mk A20
 clear A20
 obtain ⟨ji3, hji3⟩ : ∃ j_ : Int, (mn t267 a0_3) = j_ := ⟨_, rfl⟩
 replace H : (some ji3) = some r := by first | (rw [hji3] at H; exact H) | (simp only [hji3] at H ⊢; exact H)
 (try rw [hji3] at A2)
 have hji3_ : (if a0_3 < t267 then a0_3 else t267) = ji3 := hji3
 obtain rfl := Option.some.inj H
 go_enter Try.func65, Try.ntmps65
 try go_wp2_with (first | ((with_reducible refine gate_dst (N := 1) rfl ?_); refine box_event ?hg (N := 1) ?hd (cs := #[.int .i64 a0_0, .int .i64 a0_1, .int .i64 a0_2, .int .i64 a0_3]) (t := 23) ?hr ?_; (case hd => rfl); (case hg => rfl); (case hr => first | (go_simp; done) | (go_simp; rfl)); intro gb266 hg w4 hbox hb; have n0_ := Aside0.mk (below_step (by repeat (first | (with_reducible first | exact HB.out | apply below_alloc | apply pw_below_drewN | apply below_drew1) | exact HB.out)) hb); have n1_ := Aside0.mk (hbox); have n2_ := Aside0.mk ((by rw [hg]; exact (below_size (by repeat (first | (with_reducible first | exact HB.out | apply below_alloc | apply pw_below_drewN | apply below_drew1) | exact HB.out))) : w.heap.size ≤ gb266)); have n3_ := Aside0.mk ((by rw [hg]; exact (below_size (by repeat (first | (with_reducible first | exact HB.out | apply below_alloc | apply pw_below_drewN | apply below_drew1) | exact HB.out))) : w.heap.size ≤ gb266)); clear HB; have HB := n0_; have BK266 := n1_; have GW266 := n2_; have GE266 := n3_; clear n0_ n1_ n2_ n3_; clear hb hbox hg))
 have n0_ := Aside0.mk (blk_drew BK266.out)
 have n1_ := Aside0.mk (below_drew1 HB.out)
 clear BK266
 clear HB
 have BK266 := n0_
 have HB := n1_
 clear n0_ n1_
 refine start_ (n := 6) (S := fun w' => w'.cell? ⟨gb266, 0, none⟩ = some (.int .i64 a0_0) ∧ w'.cell? ⟨gb266, 1, none⟩ = some (.int .i64 a0_1) ∧ w'.cell? ⟨gb266, 2, none⟩ = some (.int .i64 a0_2) ∧ w'.cell? ⟨gb266, 3, none⟩ = some (.int .i64 a0_3)) (ds := []) #[false, false, false, false, false, false] (by kernel_rfl) rfl rfl ⟨(blk_cell BK266.out 0).trans rfl, (blk_cell BK266.out 1).trans rfl, (blk_cell BK266.out 2).trans rfl, (blk_cell BK266.out 3).trans rfl⟩ (fun hHeld => ?_)
 generalize w4.drew = w5 at BK266 HB hHeld ⊢
 refine pure_ (i := 2) (N := some 5) (v := ?_) (a' := ?_) #[false, false, true, false, false, false] rfl rfl (by kernel_rfl) (fun _ _ _ h => h) (Or.inl ⟨by rfl, ?_⟩) ?_ ?_
 rotate_left
 ·intro w'
  go_simp
  with_reducible rfl
 rotate_left
 ·simp only [Act.put, List.setIfInBounds_toArray, List.set_cons_zero, List.set_cons_succ, i64_w, i32_w]
  rfl
 refine take_ (i := 0) (N := some 3) (v := ?_) (a' := ?_) #[true, false, true, false, false, false] rfl rfl (by kernel_rfl) (fun _ _ _ h => h) (Or.inl ⟨by rfl, ?_⟩) hHeld ?_ ?_
 rotate_left
 ·rintro w' ⟨s0, s1, s2, s3⟩
  go_simp
  with_reducible rfl
 rotate_left
 ·simp only [Act.put, List.setIfInBounds_toArray, List.set_cons_zero, List.set_cons_succ, i64_w, i32_w]
  rfl
 refine take_ (i := 3) (N := some 6) (v := ?_) (a' := ?_) #[true, false, true, true, false, false] rfl rfl (by kernel_rfl) (fun _ _ _ h => h) (Or.inl ⟨by rfl, ?_⟩) hHeld ?_ ?_
 rotate_left
 ·rintro w' ⟨s0, s1, s2, s3⟩
  go_simp
  with_reducible rfl
 rotate_left
 ·simp only [Act.put, List.setIfInBounds_toArray, List.set_cons_zero, List.set_cons_succ, i64_w, i32_w]
  rfl
 refine one_ (i := 1) (N := some 4) #[true, true, true, true, false, false] rfl rfl (by kernel_rfl) (by decide) (fun K hK => ?_)
 refine goes_ Try.func62 (by kernel_rfl) rfl #[.agg #[.int .i64 a0_0, .int .i64 a0_1, .int .i64 a0_2, .int .i64 a0_3]] (by rfl) rfl rfl (by (try simp only [List.map_toArray, List.map_cons, List.map_nil]); first | done | rfl | (simp only [List.length_drop, List.length_take]; rfl)) ?_
 with_reducible refine (meanderref08_InDepth.calls a0_0 a0_1 a0_2 a0_3 t267 _ A2.out).mono ?_
 rintro e w6 ⟨rfl, hb⟩
 refine ⟨_, rfl, ?_⟩
 have n0_ := Aside0.mk (blk_below (g := gb266) (o := .cells #[.int .i64 a0_0, .int .i64 a0_1, .int .i64 a0_2, .int .i64 a0_3] 23 (0, 0)) (by (with_reducible repeat (first | refine blk_drewN ?_ _ | refine blk_drew ?_ | refine blk_alloc ?_ _)); exact BK266.out) hb)
 have n1_ := Aside0.mk (below_step (by repeat (first | (with_reducible first | exact HB.out | apply below_alloc | apply pw_below_drewN | apply below_drew1 | refine below_set ?_ GE266.out) | exact HB.out)) hb)
 clear BK266
 clear HB
 have BK266 := n0_
 have HB := n1_
 clear n0_ n1_
 (try clear hb)
 (try clear hb2)
 (try clear hk)
 (try clear hi)
 refine hK.out _ _ ⟨(blk_cell BK266.out 0).trans rfl, (blk_cell BK266.out 1).trans rfl, (blk_cell BK266.out 2).trans rfl, (blk_cell BK266.out 3).trans rfl⟩ (fun hHeld => ?_)
 clear hK K
 refine norm_ (a' := ?_) ?_ ?_
 rotate_left
 ·show Act.put _ (some 4) _ = _
  simp only [Act.put, List.setIfInBounds_toArray, List.set_cons_zero, List.set_cons_succ, i64_w, i32_w]
  rfl
 refine pure_ (i := 4) (N := some 7) (v := ?_) (a' := ?_) #[true, true, true, true, true, false] rfl rfl (by kernel_rfl) (fun _ _ _ h => h) (Or.inl ⟨by rfl, ?_⟩) ?_ ?_
 rotate_left
 ·intro w'
  go_simp
  with_reducible rfl
 rotate_left
 ·simp only [Act.put, List.setIfInBounds_toArray, List.set_cons_zero, List.set_cons_succ, i64_w, i32_w]
  rfl
 refine pure_ (i := 5) (N := some 2) (v := ?_) (a' := ?_) #[true, true, true, true, true, true] rfl rfl (by kernel_rfl) (fun _ _ _ h => h) (Or.inl ⟨by rfl, ?_⟩) ?_ ?_
 rotate_left
 ·intro w'
  go_simp
  with_reducible rfl
 rotate_left
 ·simp only [Act.put, List.setIfInBounds_toArray, List.set_cons_zero, List.set_cons_succ, i64_w, i32_w]
  rfl
 refine done_ (by kernel_rfl) ?_
 try go_wp2
 go_ret
 exact ⟨by first | rfl | (simp [errW_none, errW_some] <;> rfl) | (simp only [← hji3]; first | rfl | (simp [errW_none, errW_some] <;> rfl)) | (simp [*, errW_none, errW_some] <;> rfl), by repeat (first | (with_reducible first | exact HB.out | apply below_alloc | apply pw_below_drewN | apply below_drew1 | refine below_set ?_ GE266.out) | exact HB.out)⟩

/-! ### meanderref09_round: function 33 -/
mutual
def meanderref09_round.l0 : Nat → Int → Int → List Bool → Int → List (S23) → List (S36) → Option (Bool)
 | 0, _, _, _, _, _, _ => none
 | k + 1, x1, x5, x6, x7, x269000, x269001 => if x7 < (x269000.length : Int) then (meanderref09_round.l1 k x1 x5 x6 x7 0 x269000 x269001) else (if 0 ≤ x1 then (if x1 < (x6.length : Int) then (some (rdOf false x6 x1)) else (none)) else (none))
def meanderref09_round.l1 : Nat → Int → Int → List Bool → Int → Int → List (S23) → List (S36) → Option (Bool)
 | 0, _, _, _, _, _, _, _ => none
 | k + 1, x1, x5, x6, x7, x8, x269000, x269001 => if x8 < (x269001.length : Int) then (if 0 ≤ x8 then (if 0 ≤ ((rd_T36 x269001 x8).f1) then (if ((rd_T36 x269001 x8).f1) < (x269000.length : Int) then ((meanderref09_low.f ((rd_T23 x269000 ((rd_T36 x269001 x8).f1)).f0) ((rd_T23 x269000 ((rd_T36 x269001 x8).f1)).f1) ((rd_T23 x269000 ((rd_T36 x269001 x8).f1)).f2) ((rd_T23 x269000 ((rd_T36 x269001 x8).f1)).f3)).bind fun t279 => (if t279 < x5 then (meanderref09_round.j2 k x1 x5 x6 x7 x8 true x269000 x269001 ((rd_T36 x269001 x8).f0) ((rd_T36 x269001 x8).f1) ((rd_T36 x269001 x8).f2)) else (if ((rd_T23 x269000 ((rd_T36 x269001 x8).f1)).f0) = 10 then (meanderref09_round.j2 k x1 x5 x6 x7 x8 (((rd_T23 x269000 ((rd_T36 x269001 x8).f1)).f3) == x5) x269000 x269001 ((rd_T36 x269001 x8).f0) ((rd_T36 x269001 x8).f1) ((rd_T36 x269001 x8).f2)) else (meanderref09_round.j2 k x1 x5 x6 x7 x8 false x269000 x269001 ((rd_T36 x269001 x8).f0) ((rd_T36 x269001 x8).f1) ((rd_T36 x269001 x8).f2))))) else (none)) else (none)) else (none)) else (meanderref09_round.l0 k x1 x5 x6 (wrap64 (x7 + 1)) x269000 x269001)
def meanderref09_round.j2 : Nat → Int → Int → List Bool → Int → Int → Bool → List (S23) → List (S36) → Int → Int → Int → Option (Bool)
 | 0, _, _, _, _, _, _, _, _, _, _, _ => none
 | k + 1, x1, x5, x6, x7, x8, x60, x269000, x269001, x277000, x277001, x277002 => if x60 = true then (meanderref09_round.l1 k x1 x5 x6 x7 (wrap64 (x8 + 1)) x269000 x269001) else (if x277000 = x1 then (if 0 ≤ x277001 then (if x277001 < (x6.length : Int) then (meanderref09_round.l1 k x1 x5 (x6.set (x277001 : Int).toNat true) x7 (wrap64 (x8 + 1)) x269000 x269001) else (none)) else (none)) else (if 0 ≤ x277000 then (if x277000 < (x6.length : Int) then (if rdOf false x6 x277000 = true then (if 0 ≤ x277001 then (if x277001 < (x6.length : Int) then (meanderref09_round.l1 k x1 x5 (x6.set (x277001 : Int).toNat true) x7 (wrap64 (x8 + 1)) x269000 x269001) else (none)) else (none)) else (meanderref09_round.l1 k x1 x5 x6 x7 (wrap64 (x8 + 1)) x269000 x269001)) else (none)) else (none)))
end
def meanderref09_round.f (k : Nat) (l0_0 : List (S23)) (l0_1 : List (S36)) (a1 : Int) : Option (Bool) := if 0 ≤ a1 then (if a1 < (l0_0.length : Int) then ((meanderref09_low.f ((rd_T23 l0_0 a1).f0) ((rd_T23 l0_0 a1).f1) ((rd_T23 l0_0 a1).f2) ((rd_T23 l0_0 a1).f3)).bind fun t270 => (if 0 ≤ (l0_0.length : Int) then (if ((l0_0.length : Int) : Int).toNat ≤ 281474976710656 then (meanderref09_round.l0 k a1 t270 (List.replicate ((l0_0.length : Int) : Int).toNat false) 0 l0_0 l0_1) else (none)) else (none))) else (none)) else (none)
theorem meanderref09_round.mono_l : ∀ k, (∀ y0 y1 y2 y3 y4 y5, LeO (meanderref09_round.l0 k y0 y1 y2 y3 y4 y5) (meanderref09_round.l0 (k + 1) y0 y1 y2 y3 y4 y5)) ∧ (∀ y0 y1 y2 y3 y4 y5 y6, LeO (meanderref09_round.l1 k y0 y1 y2 y3 y4 y5 y6) (meanderref09_round.l1 (k + 1) y0 y1 y2 y3 y4 y5 y6)) ∧ (∀ y0 y1 y2 y3 y4 y5 y6 y7 y8 y9 y10, LeO (meanderref09_round.j2 k y0 y1 y2 y3 y4 y5 y6 y7 y8 y9 y10) (meanderref09_round.j2 (k + 1) y0 y1 y2 y3 y4 y5 y6 y7 y8 y9 y10))
 | 0 => ⟨fun _ _ _ _ _ _ r h => by simp [meanderref09_round.l0] at h, fun _ _ _ _ _ _ _ r h => by simp [meanderref09_round.l1] at h, fun _ _ _ _ _ _ _ _ _ _ _ r h => by simp [meanderref09_round.j2] at h⟩
 | k + 1 => by
  obtain ⟨ih0, ih1, ih2⟩ := meanderref09_round.mono_l k
  refine ⟨?_, ?_, ?_⟩
  ·intro y0 y1 y2 y3 y4 y5
   unfold meanderref09_round.l0
   repeat' first
   | (with_reducible exact ih0 _ _ _ _ _ _)
   | (with_reducible exact ih1 _ _ _ _ _ _ _)
   | (with_reducible exact ih2 _ _ _ _ _ _ _ _ _ _ _)
   | (with_reducible exact LeO.refl _)
   | (with_reducible exact LeO.none _)
   | (with_reducible refine LeO.ite ?_ ?_)
   | (with_reducible refine LeO.bind ?_ (fun _ => ?_))
   | exact ih0 _ _ _ _ _ _
   | exact ih1 _ _ _ _ _ _ _
   | exact ih2 _ _ _ _ _ _ _ _ _ _ _
   | exact LeO.none _
   | refine LeO.ite ?_ ?_
   | refine LeO.bind ?_ (fun _ => ?_)
  ·intro y0 y1 y2 y3 y4 y5 y6
   unfold meanderref09_round.l1
   repeat' first
   | (with_reducible exact ih0 _ _ _ _ _ _)
   | (with_reducible exact ih1 _ _ _ _ _ _ _)
   | (with_reducible exact ih2 _ _ _ _ _ _ _ _ _ _ _)
   | (with_reducible exact LeO.refl _)
   | (with_reducible exact LeO.none _)
   | (with_reducible refine LeO.ite ?_ ?_)
   | (with_reducible refine LeO.bind ?_ (fun _ => ?_))
   | exact ih0 _ _ _ _ _ _
   | exact ih1 _ _ _ _ _ _ _
   | exact ih2 _ _ _ _ _ _ _ _ _ _ _
   | exact LeO.none _
   | refine LeO.ite ?_ ?_
   | refine LeO.bind ?_ (fun _ => ?_)
  ·intro y0 y1 y2 y3 y4 y5 y6 y7 y8 y9 y10
   unfold meanderref09_round.j2
   repeat' first
   | (with_reducible exact ih0 _ _ _ _ _ _)
   | (with_reducible exact ih1 _ _ _ _ _ _ _)
   | (with_reducible exact ih2 _ _ _ _ _ _ _ _ _ _ _)
   | (with_reducible exact LeO.refl _)
   | (with_reducible exact LeO.none _)
   | (with_reducible refine LeO.ite ?_ ?_)
   | (with_reducible refine LeO.bind ?_ (fun _ => ?_))
   | exact ih0 _ _ _ _ _ _
   | exact ih1 _ _ _ _ _ _ _
   | exact ih2 _ _ _ _ _ _ _ _ _ _ _
   | exact LeO.none _
   | refine LeO.ite ?_ ?_
   | refine LeO.bind ?_ (fun _ => ?_)
theorem meanderref09_round.mono : ∀ a0 a1 a2 k, LeO (meanderref09_round.f k a0 a1 a2) (meanderref09_round.f (k + 1) a0 a1 a2) := by
 intro a0 a1 a2 k
 obtain ⟨ih0, ih1, ih2⟩ := meanderref09_round.mono_l k
 unfold meanderref09_round.f
 repeat' first
   | (with_reducible exact ih0 _ _ _ _ _ _)
   | (with_reducible exact ih1 _ _ _ _ _ _ _)
   | (with_reducible exact ih2 _ _ _ _ _ _ _ _ _ _ _)
   | (with_reducible exact LeO.refl _)
   | (with_reducible exact LeO.none _)
   | (with_reducible refine LeO.ite ?_ ?_)
   | (with_reducible refine LeO.bind ?_ (fun _ => ?_))
   | exact ih0 _ _ _ _ _ _
   | exact ih1 _ _ _ _ _ _ _
   | exact ih2 _ _ _ _ _ _ _ _ _ _ _
   | exact LeO.none _
   | refine LeO.ite ?_ ?_
   | refine LeO.bind ?_ (fun _ => ?_)
set_option maxHeartbeats 8000000 in
set_option maxRecDepth 100000 in
theorem meanderref09_round.calls (k : Nat) (A0_0 : Option Addr) (c0_0 : Nat) (l0_0 : List (S23)) (A0_1 : Option Addr) (c0_1 : Nat) (l0_1 : List (S36)) (a1 : Int) (r : Bool) (w : World) (hr0_0 : Kd.C k23 w A0_0 l0_0.length l0_0) (hc0_0 : l0_0.length ≤ c0_0) (hr0_1 : Kd.C k36 w A0_1 l0_1.length l0_1) (hc0_1 : l0_1.length ≤ c0_1) (h : meanderref09_round.f k l0_0 l0_1 a1 = some r) :
  Calls Try.prog 33 #[.agg #[.slice A0_0 l0_0.length c0_0, .slice A0_1 l0_1.length c0_1], .int .i64 a1] w fun e w' => e = .returned (.bool r) ∧ Below w.heap.size w w' := by
 have hu29 := Try.underlying29
 have hu23 := Try.underlying23
 have hu36 := Try.underlying36
 have HR0_0 := Aside0.mk hr0_0
 have HC0_0 := Aside0.mk hc0_0
 clear hr0_0 hc0_0
 have HR0_1 := Aside0.mk hr0_1
 have HC0_1 := Aside0.mk hc0_1
 clear hr0_1 hc0_1
 have HB := Aside0.mk (Below.refl w.heap.size w)
 have H : (if 0 ≤ a1 then (if a1 < (l0_0.length : Int) then ((meanderref09_low.f ((rd_T23 l0_0 a1).f0) ((rd_T23 l0_0 a1).f1) ((rd_T23 l0_0 a1).f2) ((rd_T23 l0_0 a1).f3)).bind fun t270 => (if 0 ≤ (l0_0.length : Int) then (if ((l0_0.length : Int) : Int).toNat ≤ 281474976710656 then (meanderref09_round.l0 k a1 t270 (List.replicate ((l0_0.length : Int) : Int).toNat false) 0 l0_0 l0_1) else (none)) else (none))) else (none)) else (none)) = some r := h
 clear h
 by_cases c3 : 0 ≤ a1
 ·rw [if_pos c3] at H
  have c3b0 : decide (0 ≤ a1) = true := decide_eq_true c3
  clear c3
  by_cases c4 : a1 < (l0_0.length : Int)
  ·rw [if_pos c4] at H
   have c4b0 : decide (a1 < (l0_0.length : Int)) = true := decide_eq_true c4
   clear c4
   replace H := Option.bind_eq_some_iff.mp H
   obtain ⟨t270, A50, H⟩ := H
   replace H : (if 0 ≤ (l0_0.length : Int) then (if ((l0_0.length : Int) : Int).toNat ≤ 281474976710656 then (meanderref09_round.l0 k a1 t270 (List.replicate ((l0_0.length : Int) : Int).toNat false) 0 l0_0 l0_1) else (none)) else (none)) = some r := H
   have A5 := Aside0.mk A50
   clear A50
   by_cases c6 : 0 ≤ (l0_0.length : Int)
   ·rw [if_pos c6] at H
    have c6b0 := eq_true c6
    have c6b1 : decide (0 ≤ (l0_0.length : Int)) = true := decide_eq_true c6
    clear c6
    by_cases c7 : ((l0_0.length : Int) : Int).toNat ≤ 281474976710656
    ·rw [if_pos c7] at H
     have c7b0 := eq_true c7
     have c7b1 : decide (((l0_0.length : Int) : Int).toNat ≤ 281474976710656) = true := decide_eq_true c7
     clear c7
     obtain ⟨y271, hy271⟩ : ∃ y_ : List Bool, y_ = (List.replicate ((l0_0.length : Int) : Int).toNat false) := ⟨_, rfl⟩
     replace H : (meanderref09_round.l0 k a1 t270 y271 0 l0_0 l0_1) = some r := by first | (rw [hy271]; with_reducible exact H) | (have H2_ := (Option.bind_some _ _).symm.trans H; rw [hy271]; with_reducible exact H2_) | (have H2_ := (Option.bind_some _ _).symm.trans H; with_reducible exact H2_) | with_reducible exact H | (rw [hy271]; exact H) | exact H
     have Ny271 := Aside0.mk hy271
     clear hy271
     have H' := Aside0.mk H
     clear H
     go_enter Try.func33, Try.ntmps33
     go_wp2_with (first | ((with_reducible refine gate_dst (N := 2) rfl ?_); refine box_event ?hg (N := 2) ?hd (cs := #[.slice A0_0 l0_0.length c0_0, .slice A0_1 l0_1.length c0_1]) (t := 29) ?hr ?_; (case hd => rfl); (case hg => rfl); (case hr => first | (go_simp; done) | (go_simp; rfl)); intro gb268 hg w8 hbox hb; have n0_ := Aside0.mk (below_step (by repeat (first | (with_reducible first | exact HB.out | apply below_alloc | apply pw_below_drewN | apply below_drew1) | exact HB.out)) hb); have n1_ := Aside0.mk (hbox); have n2_ := Aside0.mk ((by rw [hg]; exact (below_size (by repeat (first | (with_reducible first | exact HB.out | apply below_alloc | apply pw_below_drewN | apply below_drew1) | exact HB.out))) : w.heap.size ≤ gb268)); have n3_ := Aside0.mk ((by rw [hg]; exact (below_size (by repeat (first | (with_reducible first | exact HB.out | apply below_alloc | apply pw_below_drewN | apply below_drew1) | exact HB.out))) : w.heap.size ≤ gb268)); clear HB; have HB := n0_; have BK268 := n1_; have GW268 := n2_; have GE268 := n3_; clear n0_ n1_ n2_ n3_; clear hb hbox hg; have hcz9_0 : w8.cell? ⟨gb268, 0, none⟩ = some (.slice A0_0 l0_0.length c0_0) := (blk_cell BK268.out 0).trans rfl; have hcz9_1 : w8.cell? ⟨gb268, 1, none⟩ = some (.slice A0_1 l0_1.length c0_1) := (blk_cell BK268.out 1).trans rfl; have hfz9_0 := blk_frozen BK268.out 0; have hfz9_1 := blk_frozen BK268.out 1; have p269 : 0 ≤ (a1 : Int) := of_decide_eq_true (by first | (with_reducible assumption) | assumption); have q269 : a1 < (l0_0.length : Int) := of_decide_eq_true (by first | (with_reducible assumption) | assumption); obtain ⟨ad269, e269, hx269_0, hx269_1, hx269_2, hx269_3⟩ := at_T23 HR0_0.out a1 p269 q269; cases e269; replace hx269_0 := (HB.out.cell (World.block_lt_of_cell? w _ hx269_0)).trans hx269_0; replace hx269_1 := (HB.out.cell (World.block_lt_of_cell? w _ hx269_1)).trans hx269_1; replace hx269_2 := (HB.out.cell (World.block_lt_of_cell? w _ hx269_2)).trans hx269_2; replace hx269_3 := (HB.out.cell (World.block_lt_of_cell? w _ hx269_3)).trans hx269_3; replace p269 := eq_true p269; replace q269 := eq_true q269) | ((with_reducible refine gate_callee (f := 65) rfl ?_); refine goesL_ (some 16) rfl rfl Try.func65 (by kernel_rfl) rfl #[.agg #[.int .i64 ((rd_T23 l0_0 a1).f0), .int .i64 ((rd_T23 l0_0 a1).f1), .int .i64 ((rd_T23 l0_0 a1).f2), .int .i64 ((rd_T23 l0_0 a1).f3)]] rfl (by (try simp only [List.map_toArray, List.map_cons, List.map_nil]); first | done | rfl | (simp only [List.length_drop, List.length_take]; rfl)) ?_; (with_reducible refine (meanderref09_low.calls ((rd_T23 l0_0 a1).f0) ((rd_T23 l0_0 a1).f1) ((rd_T23 l0_0 a1).f2) ((rd_T23 l0_0 a1).f3) t270 _ A5.out).mono ?_); rintro e w10 ⟨rfl, hb⟩; refine ⟨_, rfl, ?_⟩; have n0_ := Aside0.mk (blk_below (g := gb268) (o := .cells #[.slice (some ad269) l0_0.length c0_0, .slice A0_1 l0_1.length c0_1] 29 (0, 0)) (by (with_reducible repeat (first | refine blk_drewN ?_ _ | refine blk_drew ?_ | refine blk_alloc ?_ _)); exact BK268.out) hb); have n1_ := Aside0.mk (below_step (by repeat (first | (with_reducible first | exact HB.out | apply below_alloc | apply pw_below_drewN | apply below_drew1 | refine below_set ?_ GE268.out) | exact HB.out)) hb); clear BK268; clear HB; have BK268 := n0_; have HB := n1_; clear n0_ n1_; (try clear hb); (try clear hb2); (try clear hk); (try clear hi); have hcz11_0 : w10.cell? ⟨gb268, 0, none⟩ = some (.slice (some ad269) l0_0.length c0_0) := (blk_cell BK268.out 0).trans rfl; have hcz11_1 : w10.cell? ⟨gb268, 1, none⟩ = some (.slice A0_1 l0_1.length c0_1) := (blk_cell BK268.out 1).trans rfl; have hfz11_0 := blk_frozen BK268.out 0; have hfz11_1 := blk_frozen BK268.out 1) | ((with_reducible refine gate_dst (N := 20) rfl ?_); refine Kd.R_make Kd.bool _ 4 rfl (N := 20) rfl 77 _ _ rfl (l0_0.length : Int) rfl rfl Try.underlying77 (.bool false) 1 info4 rfl (by decide) (by omega) false (ok := fun _ => True) (okp := fun _ => True) rfl (fun _ hk => hk) trivial (of_decide_eq_true (by first | (with_reducible assumption) | assumption)) (Nat.le_trans (Nat.mul_le_mul_right _ (of_decide_eq_true (by first | (with_reducible assumption) | assumption) : (l0_0.length : Int).toNat ≤ 281474976710656)) (by omega)) (Below.refl _ _) (Nat.le_refl _) ?_; intro v272 w12 ho13 hb hg_ hnew_; clear hg_ hnew_; (first | rw [← Ny271.out] at ho13 | (simp only [Int.reduceToNat] at ho13; rw [← Ny271.out] at ho13)); have n0_ := Aside0.mk (Kd.R_lower ho13 (below_size (by repeat (first | (with_reducible first | exact HB.out | apply below_alloc | apply pw_below_drewN | apply below_drew1 | refine below_set ?_ GE268.out) | exact HB.out)))); have n1_ := Aside0.mk (blk_below (g := gb268) (o := .cells #[.slice (some ad269) l0_0.length c0_0, .slice A0_1 l0_1.length c0_1] 29 (0, 0)) (by (with_reducible repeat (first | refine blk_drewN ?_ _ | refine blk_drew ?_ | refine blk_alloc ?_ _)); exact BK268.out) hb); have n2_ := Aside0.mk (below_step (by repeat (first | (with_reducible first | exact HB.out | apply below_alloc | apply pw_below_drewN | apply below_drew1 | refine below_set ?_ GE268.out) | exact HB.out)) hb); clear BK268; clear HB; have HO273 := n0_; have BK268 := n1_; have HB := n2_; clear n0_ n1_ n2_; clear hb ho13))
     go_loopg [7] k (fun kq v7 w' => ∃ (x6_1 : List Bool) (x7_1 : Int), v7 = .int .i64 x7_1 ∧ Aside0 (meanderref09_round.l0 kq a1 t270 x6_1 x7_1 l0_0 l0_1 = some r) ∧ Aside0 (kq ≤ k) ∧ Aside0 (Kd.R Kd.bool 4 w' w.heap.size (fun _ => True) v272 x6_1) ∧ Aside0 (w'.heap[gb268]? = some (.cells #[(.slice (some ad269) l0_0.length c0_0), (.slice A0_1 l0_1.length c0_1)] 29 (0, 0))) ∧ Aside0 (Below w.heap.size w w'))
     case atStart => exact ⟨(y271), (0), (by first | rfl | (simp; done) | (simp [*]; done)), H', ⟨Nat.le_refl _⟩, ⟨by (with_reducible repeat (first | apply Kd.R_alloc | apply Kd.R_drewN | apply Kd.R_drew)); exact HO273.out⟩, ⟨by (with_reducible repeat (first | refine blk_drewN ?_ _ | refine blk_drew ?_ | refine blk_alloc ?_ _)); exact BK268.out⟩, ⟨by repeat (first | (with_reducible first | exact HB.out | apply below_alloc | apply pw_below_drewN | apply below_drew1 | refine below_set ?_ GE268.out) | exact HB.out)⟩⟩
     case round =>
      clear H'
      try clear p2
      try clear q2
      try clear hx2
      try clear c3
      try clear c3b0
      try clear c4
      try clear c4b0
      try clear c6
      try clear c6b0
      try clear c6b1
      try clear c7
      try clear c7b0
      try clear c7b1
      try clear hcz11_0
      try clear hcz11_1
      try clear hcz9_0
      try clear hcz9_1
      try clear hfz11_0
      try clear hfz11_1
      try clear hfz9_0
      try clear hfz9_1
      try clear hx269_0
      try clear hx269_1
      try clear hx269_2
      try clear hx269_3
      try clear p269
      try clear q269
      obtain ⟨x6_1, x7_1, rfl, HA, HK1, HO_6, BK268, HB⟩ := hrel
      cases gk with
      | zero => exact absurd HA.out (by simp [meanderref09_round.l0])
      | succ k1 =>
       have H := HA.out
       clear HA
       simp only [meanderref09_round.l0] at H
       by_cases c14 : x7_1 < (l0_0.length : Int)
       ·rw [if_pos c14] at H
        have c14b0 : decide (x7_1 < (l0_0.length : Int)) = true := decide_eq_true c14
        clear c14
        have H' := Aside0.mk H
        clear H
        have hcz15_0 : wr.cell? ⟨gb268, 0, none⟩ = some (.slice (some ad269) l0_0.length c0_0) := (blk_cell BK268.out 0).trans rfl
        have hcz15_1 : wr.cell? ⟨gb268, 1, none⟩ = some (.slice A0_1 l0_1.length c0_1) := (blk_cell BK268.out 1).trans rfl
        have hfz15_0 := blk_frozen BK268.out 0
        have hfz15_1 := blk_frozen BK268.out 1
        go_wp2
        go_loopg [8] k1 (fun kq v8 w' => ∃ (x6_2 : List Bool) (x8_2 : Int), v8 = .int .i64 x8_2 ∧ Aside0 (meanderref09_round.l1 kq a1 t270 x6_2 x7_1 x8_2 l0_0 l0_1 = some r) ∧ Aside0 (kq ≤ k1) ∧ Aside0 (Kd.R Kd.bool 4 w' w.heap.size (fun _ => True) v272 x6_2) ∧ Aside0 (w'.heap[gb268]? = some (.cells #[(.slice (some ad269) l0_0.length c0_0), (.slice A0_1 l0_1.length c0_1)] 29 (0, 0))) ∧ Aside0 (Below w.heap.size w w'))
        case atStart => exact ⟨(x6_1), (0), (by first | rfl | (simp; done) | (simp [*]; done)), H', ⟨Nat.le_refl _⟩, ⟨by (with_reducible repeat (first | apply Kd.R_alloc | apply Kd.R_drewN | apply Kd.R_drew)); exact HO_6.out⟩, ⟨by (with_reducible repeat (first | refine blk_drewN ?_ _ | refine blk_drew ?_ | refine blk_alloc ?_ _)); exact BK268.out⟩, ⟨by repeat (first | (with_reducible first | exact HB.out | apply below_alloc | apply pw_below_drewN | apply below_drew1 | refine below_set ?_ GE268.out) | exact HB.out)⟩⟩
        case round =>
         clear H'
         try clear c1
         try clear p2
         try clear q2
         try clear hx2
         try clear c3
         try clear c3b0
         try clear c4
         try clear c4b0
         try clear c6
         try clear c6b0
         try clear c6b1
         try clear c7
         try clear c7b0
         try clear c7b1
         try clear c14
         try clear c14b0
         try clear hcz11_0
         try clear hcz11_1
         try clear hcz15_0
         try clear hcz15_1
         try clear hcz9_0
         try clear hcz9_1
         try clear hfz11_0
         try clear hfz11_1
         try clear hfz15_0
         try clear hfz15_1
         try clear hfz9_0
         try clear hfz9_1
         try clear hx269_0
         try clear hx269_1
         try clear hx269_2
         try clear hx269_3
         try clear p2
         try clear p269
         try clear q2
         try clear q269
         obtain ⟨x6_2, x8_2, rfl, HA, HK2, HO_6, BK268, HB⟩ := hrel
         cases gk with
         | zero => exact absurd HA.out (by simp [meanderref09_round.l1])
         | succ k2 =>
          have H := HA.out
          clear HA
          simp only [meanderref09_round.l1] at H
          by_cases c16 : x8_2 < (l0_1.length : Int)
          ·rw [if_pos c16] at H
           have c16b0 : decide (x8_2 < (l0_1.length : Int)) = true := decide_eq_true c16
           clear c16
           by_cases c17 : 0 ≤ x8_2
           ·rw [if_pos c17] at H
            have c17b0 : decide (0 ≤ x8_2) = true := decide_eq_true c17
            clear c17
            by_cases c18 : 0 ≤ ((rd_T36 l0_1 x8_2).f1)
            ·rw [if_pos c18] at H
             have c18b0 : decide (0 ≤ ((rd_T36 l0_1 x8_2).f1)) = true := decide_eq_true c18
             clear c18
             by_cases c19 : ((rd_T36 l0_1 x8_2).f1) < (l0_0.length : Int)
             ·rw [if_pos c19] at H
              have c19b0 : decide (((rd_T36 l0_1 x8_2).f1) < (l0_0.length : Int)) = true := decide_eq_true c19
              clear c19
              have HC20 := Aside0.mk H
              clear H
              have hcz21_0 : wr.cell? ⟨gb268, 0, none⟩ = some (.slice (some ad269) l0_0.length c0_0) := (blk_cell BK268.out 0).trans rfl
              have hcz21_1 : wr.cell? ⟨gb268, 1, none⟩ = some (.slice A0_1 l0_1.length c0_1) := (blk_cell BK268.out 1).trans rfl
              have hfz21_0 := blk_frozen BK268.out 0
              have hfz21_1 := blk_frozen BK268.out 1
              have p275 : 0 ≤ (x8_2 : Int) := of_decide_eq_true (by first | (with_reducible assumption) | assumption)
              have q275 : x8_2 < (l0_1.length : Int) := of_decide_eq_true (by first | (with_reducible assumption) | assumption)
              obtain ⟨ad275, e275, hx275_0, hx275_1, hx275_2⟩ := at_T36 HR0_1.out x8_2 p275 q275
              cases e275
              replace hx275_0 := (HB.out.cell (World.block_lt_of_cell? w _ hx275_0)).trans hx275_0
              replace hx275_1 := (HB.out.cell (World.block_lt_of_cell? w _ hx275_1)).trans hx275_1
              replace hx275_2 := (HB.out.cell (World.block_lt_of_cell? w _ hx275_2)).trans hx275_2
              replace p275 := eq_true p275
              replace q275 := eq_true q275
              go_upto_region 11 with (first | ((with_reducible refine gate_dst (N := 9) rfl ?_); refine box_event ?hg (N := 9) ?hd (cs := #[.int .i64 0, .int .i64 0, .int .i64 0]) (t := 36) ?hr ?_; (case hd => rfl); (case hg => rfl); (case hr => first | (go_simp; done) | (go_simp; rfl)); intro gb276 hg w22 hbox hb; have n0_ := Aside0.mk (Kd.R_below (by (with_reducible repeat (first | apply Kd.R_alloc | apply Kd.R_drewN | apply Kd.R_drew)); exact HO_6.out) hb); have n1_ := Aside0.mk (blk_below (g := gb268) (o := .cells #[.slice (some ad269) l0_0.length c0_0, .slice (some ad275) l0_1.length c0_1] 29 (0, 0)) (by (with_reducible repeat (first | refine blk_drewN ?_ _ | refine blk_drew ?_ | refine blk_alloc ?_ _)); exact BK268.out) hb); have n2_ := Aside0.mk (below_step (by repeat (first | (with_reducible first | exact HB.out | apply below_alloc | apply pw_below_drewN | apply below_drew1 | refine below_set ?_ GE268.out) | exact HB.out)) hb); have n3_ := Aside0.mk (hbox); have n4_ := Aside0.mk ((by rw [hg]; exact (below_size (by repeat (first | (with_reducible first | exact HB.out | apply below_alloc | apply pw_below_drewN | apply below_drew1 | refine below_set ?_ GE268.out) | exact HB.out))) : w.heap.size ≤ gb276)); have n5_ := Aside0.mk ((by rw [hg]; exact (below_size (by repeat (first | (with_reducible first | exact HB.out | apply below_alloc | apply pw_below_drewN | apply below_drew1 | refine below_set ?_ GE268.out) | exact HB.out))) : w.heap.size ≤ gb276)); have n6_ := Aside0.mk ((by rw [hg]; exact Nat.ne_of_lt (blk_lt (g := gb268) (o := .cells #[.slice (some ad269) l0_0.length c0_0, .slice (some ad275) l0_1.length c0_1] 29 (0, 0)) (by (with_reducible repeat (first | refine blk_drewN ?_ _ | refine blk_drew ?_ | refine blk_alloc ?_ _)); exact BK268.out)) : gb268 ≠ gb276)); have n7_ := Aside0.mk ((by rw [hg]; exact Nat.ne_of_gt (blk_lt (g := gb268) (o := .cells #[.slice (some ad269) l0_0.length c0_0, .slice (some ad275) l0_1.length c0_1] 29 (0, 0)) (by (with_reducible repeat (first | refine blk_drewN ?_ _ | refine blk_drew ?_ | refine blk_alloc ?_ _)); exact BK268.out)) : gb276 ≠ gb268)); clear HO_6; clear BK268; clear HB; have HO_6 := n0_; have BK268 := n1_; have HB := n2_; have BK276 := n3_; have GW276 := n4_; have GE276 := n5_; have NB268_276 := n6_; have NB276_268 := n7_; clear n0_ n1_ n2_ n3_ n4_ n5_ n6_ n7_; clear hb hbox hg; have hnb23 := NB276_268.out; have hnc23 := NB268_276.out; have hcz24_0 : w22.cell? ⟨gb276, 0, none⟩ = some (.int .i64 0) := (blk_cell BK276.out 0).trans rfl; have hcz24_1 : w22.cell? ⟨gb276, 1, none⟩ = some (.int .i64 0) := (blk_cell BK276.out 1).trans rfl; have hcz24_2 : w22.cell? ⟨gb276, 2, none⟩ = some (.int .i64 0) := (blk_cell BK276.out 2).trans rfl; have hfz24_0 := blk_frozen BK276.out 0; have hfz24_1 := blk_frozen BK276.out 1; have hfz24_2 := blk_frozen BK276.out 2; have hcz25_0 : w22.cell? ⟨gb268, 0, none⟩ = some (.slice (some ad269) l0_0.length c0_0) := (blk_cell BK268.out 0).trans rfl; have hcz25_1 : w22.cell? ⟨gb268, 1, none⟩ = some (.slice (some ad275) l0_1.length c0_1) := (blk_cell BK268.out 1).trans rfl; have hfz25_0 := blk_frozen BK268.out 0; have hfz25_1 := blk_frozen BK268.out 1; have p277 : 0 ≤ (((rd_T36 l0_1 x8_2).f1) : Int) := of_decide_eq_true (by first | (with_reducible assumption) | assumption); have q277 : ((rd_T36 l0_1 x8_2).f1) < (l0_0.length : Int) := of_decide_eq_true (by first | (with_reducible assumption) | assumption); obtain ⟨ad277, e277, hx277_0, hx277_1, hx277_2, hx277_3⟩ := at_T23 HR0_0.out ((rd_T36 l0_1 x8_2).f1) p277 q277; obtain rfl : ad269 = ad277 := (by injection e277); have hn277_0 : ad269.block ≠ gb276 := Nat.ne_of_lt (Nat.lt_of_lt_of_le (by have := World.block_lt_of_cell? _ _ hx277_0; first | rwa [add_block] at this | exact this) GW276.out); have hn277_1 : ad269.block ≠ gb276 := Nat.ne_of_lt (Nat.lt_of_lt_of_le (by have := World.block_lt_of_cell? _ _ hx277_0; first | rwa [add_block] at this | exact this) GW276.out); have hn277_2 : ad269.block ≠ gb276 := Nat.ne_of_lt (Nat.lt_of_lt_of_le (by have := World.block_lt_of_cell? _ _ hx277_0; first | rwa [add_block] at this | exact this) GW276.out); replace hx277_0 := (HB.out.cell (World.block_lt_of_cell? w _ hx277_0)).trans hx277_0; replace hx277_1 := (HB.out.cell (World.block_lt_of_cell? w _ hx277_1)).trans hx277_1; replace hx277_2 := (HB.out.cell (World.block_lt_of_cell? w _ hx277_2)).trans hx277_2; replace hx277_3 := (HB.out.cell (World.block_lt_of_cell? w _ hx277_3)).trans hx277_3; replace hx277_0 := (cell_far (p := ⟨gb276, 0, none⟩) (by first | (rw [add_block]; exact hn277_0) | (show (Addr.add _ _).block ≠ _; rw [add_block]; exact hn277_0) | exact hn277_0) (.int .i64 ((rd_T36 l0_1 x8_2).f0))).trans hx277_0; replace hx277_1 := (cell_far (p := ⟨gb276, 0, none⟩) (by first | (rw [add_block]; exact hn277_0) | (show (Addr.add _ _).block ≠ _; rw [add_block]; exact hn277_0) | exact hn277_0) (.int .i64 ((rd_T36 l0_1 x8_2).f0))).trans hx277_1; replace hx277_2 := (cell_far (p := ⟨gb276, 0, none⟩) (by first | (rw [add_block]; exact hn277_0) | (show (Addr.add _ _).block ≠ _; rw [add_block]; exact hn277_0) | exact hn277_0) (.int .i64 ((rd_T36 l0_1 x8_2).f0))).trans hx277_2; replace hx277_3 := (cell_far (p := ⟨gb276, 0, none⟩) (by first | (rw [add_block]; exact hn277_0) | (show (Addr.add _ _).block ≠ _; rw [add_block]; exact hn277_0) | exact hn277_0) (.int .i64 ((rd_T36 l0_1 x8_2).f0))).trans hx277_3; replace hx277_0 := (cell_far (p := ⟨gb276, 1, none⟩) (by first | (rw [add_block]; exact hn277_1) | (show (Addr.add _ _).block ≠ _; rw [add_block]; exact hn277_1) | exact hn277_1) (.int .i64 ((rd_T36 l0_1 x8_2).f1))).trans hx277_0; replace hx277_1 := (cell_far (p := ⟨gb276, 1, none⟩) (by first | (rw [add_block]; exact hn277_1) | (show (Addr.add _ _).block ≠ _; rw [add_block]; exact hn277_1) | exact hn277_1) (.int .i64 ((rd_T36 l0_1 x8_2).f1))).trans hx277_1; replace hx277_2 := (cell_far (p := ⟨gb276, 1, none⟩) (by first | (rw [add_block]; exact hn277_1) | (show (Addr.add _ _).block ≠ _; rw [add_block]; exact hn277_1) | exact hn277_1) (.int .i64 ((rd_T36 l0_1 x8_2).f1))).trans hx277_2; replace hx277_3 := (cell_far (p := ⟨gb276, 1, none⟩) (by first | (rw [add_block]; exact hn277_1) | (show (Addr.add _ _).block ≠ _; rw [add_block]; exact hn277_1) | exact hn277_1) (.int .i64 ((rd_T36 l0_1 x8_2).f1))).trans hx277_3; replace hx277_0 := (cell_far (p := ⟨gb276, 2, none⟩) (by first | (rw [add_block]; exact hn277_2) | (show (Addr.add _ _).block ≠ _; rw [add_block]; exact hn277_2) | exact hn277_2) (.int .i64 ((rd_T36 l0_1 x8_2).f2))).trans hx277_0; replace hx277_1 := (cell_far (p := ⟨gb276, 2, none⟩) (by first | (rw [add_block]; exact hn277_2) | (show (Addr.add _ _).block ≠ _; rw [add_block]; exact hn277_2) | exact hn277_2) (.int .i64 ((rd_T36 l0_1 x8_2).f2))).trans hx277_1; replace hx277_2 := (cell_far (p := ⟨gb276, 2, none⟩) (by first | (rw [add_block]; exact hn277_2) | (show (Addr.add _ _).block ≠ _; rw [add_block]; exact hn277_2) | exact hn277_2) (.int .i64 ((rd_T36 l0_1 x8_2).f2))).trans hx277_2; replace hx277_3 := (cell_far (p := ⟨gb276, 2, none⟩) (by first | (rw [add_block]; exact hn277_2) | (show (Addr.add _ _).block ≠ _; rw [add_block]; exact hn277_2) | exact hn277_2) (.int .i64 ((rd_T36 l0_1 x8_2).f2))).trans hx277_3; clear hn277_0; clear hn277_1; clear hn277_2; replace p277 := eq_true p277; replace q277 := eq_true q277) | ((with_reducible refine gate_dst (N := 10) rfl ?_); refine box_event ?hg (N := 10) ?hd (cs := #[.int .i64 0, .int .i64 0, .int .i64 0, .int .i64 0]) (t := 23) ?hr ?_; (case hd => rfl); (case hg => rfl); (case hr => first | (go_simp; done) | (go_simp; rfl)); intro gb278 hg w26 hbox hb; have n0_ := Aside0.mk (Kd.R_below (by (with_reducible repeat (first | apply Kd.R_alloc | apply Kd.R_drewN | apply Kd.R_drew)); exact (Kd.R_mono (Kd.R_far (p := ⟨gb276, 2, none⟩) (Kd.R_far (p := ⟨gb276, 1, none⟩) (Kd.R_far (p := ⟨gb276, 0, none⟩) (Kd.R_types HO_6.out BK276.out (by decide)) (fun _ hk => hk.2) (.int .i64 ((rd_T36 l0_1 x8_2).f0))) (fun _ hk => hk.2) (.int .i64 ((rd_T36 l0_1 x8_2).f1))) (fun _ hk => hk.2) (.int .i64 ((rd_T36 l0_1 x8_2).f2))) (fun _ h_ => h_.1))) hb); have n1_ := Aside0.mk (blk_below (g := gb268) (o := .cells #[.slice (some ad269) l0_0.length c0_0, .slice (some ad275) l0_1.length c0_1] 29 (0, 0)) (by (with_reducible repeat (first | refine blk_drewN ?_ _ | refine blk_drew ?_ | refine blk_alloc ?_ _)); refine blk_far ?_ NB268_276.out _; (with_reducible repeat (first | refine blk_drewN ?_ _ | refine blk_drew ?_ | refine blk_alloc ?_ _)); refine blk_far ?_ NB268_276.out _; (with_reducible repeat (first | refine blk_drewN ?_ _ | refine blk_drew ?_ | refine blk_alloc ?_ _)); refine blk_far ?_ NB268_276.out _; (with_reducible repeat (first | refine blk_drewN ?_ _ | refine blk_drew ?_ | refine blk_alloc ?_ _)); exact BK268.out) hb); have n2_ := Aside0.mk (blk_below (g := gb276) (o := .cells #[.int .i64 ((rd_T36 l0_1 x8_2).f0), .int .i64 ((rd_T36 l0_1 x8_2).f1), .int .i64 ((rd_T36 l0_1 x8_2).f2)] 36 (0, 0)) (by (with_reducible repeat (first | refine blk_drewN ?_ _ | refine blk_drew ?_ | refine blk_alloc ?_ _)); refine blk_put (cs := #[.int .i64 ((rd_T36 l0_1 x8_2).f0), .int .i64 ((rd_T36 l0_1 x8_2).f1), .int .i64 0]) ?_ 2 _ rfl; (with_reducible repeat (first | refine blk_drewN ?_ _ | refine blk_drew ?_ | refine blk_alloc ?_ _)); refine blk_put (cs := #[.int .i64 ((rd_T36 l0_1 x8_2).f0), .int .i64 0, .int .i64 0]) ?_ 1 _ rfl; (with_reducible repeat (first | refine blk_drewN ?_ _ | refine blk_drew ?_ | refine blk_alloc ?_ _)); refine blk_put (cs := #[.int .i64 0, .int .i64 0, .int .i64 0]) ?_ 0 _ rfl; (with_reducible repeat (first | refine blk_drewN ?_ _ | refine blk_drew ?_ | refine blk_alloc ?_ _)); exact BK276.out) hb); have n3_ := Aside0.mk (below_step (by repeat (first | (with_reducible first | exact HB.out | apply below_alloc | apply pw_below_drewN | apply below_drew1 | refine below_set ?_ GE268.out | refine below_set ?_ GE276.out) | exact HB.out)) hb); have n4_ := Aside0.mk (hbox); have n5_ := Aside0.mk ((by rw [hg]; exact (below_size (by repeat (first | (with_reducible first | exact HB.out | apply below_alloc | apply pw_below_drewN | apply below_drew1 | refine below_set ?_ GE268.out | refine below_set ?_ GE276.out) | exact HB.out))) : w.heap.size ≤ gb278)); have n6_ := Aside0.mk ((by rw [hg]; exact (below_size (by repeat (first | (with_reducible first | exact HB.out | apply below_alloc | apply pw_below_drewN | apply below_drew1 | refine below_set ?_ GE268.out | refine below_set ?_ GE276.out) | exact HB.out))) : w.heap.size ≤ gb278)); have n7_ := Aside0.mk ((by rw [hg]; exact Nat.ne_of_lt (blk_lt (g := gb268) (o := .cells #[.slice (some ad269) l0_0.length c0_0, .slice (some ad275) l0_1.length c0_1] 29 (0, 0)) (by (with_reducible repeat (first | refine blk_drewN ?_ _ | refine blk_drew ?_ | refine blk_alloc ?_ _)); refine blk_far ?_ NB268_276.out _; (with_reducible repeat (first | refine blk_drewN ?_ _ | refine blk_drew ?_ | refine blk_alloc ?_ _)); refine blk_far ?_ NB268_276.out _; (with_reducible repeat (first | refine blk_drewN ?_ _ | refine blk_drew ?_ | refine blk_alloc ?_ _)); refine blk_far ?_ NB268_276.out _; (with_reducible repeat (first | refine blk_drewN ?_ _ | refine blk_drew ?_ | refine blk_alloc ?_ _)); exact BK268.out)) : gb268 ≠ gb278)); have n8_ := Aside0.mk ((by rw [hg]; exact Nat.ne_of_gt (blk_lt (g := gb268) (o := .cells #[.slice (some ad269) l0_0.length c0_0, .slice (some ad275) l0_1.length c0_1] 29 (0, 0)) (by (with_reducible repeat (first | refine blk_drewN ?_ _ | refine blk_drew ?_ | refine blk_alloc ?_ _)); refine blk_far ?_ NB268_276.out _; (with_reducible repeat (first | refine blk_drewN ?_ _ | refine blk_drew ?_ | refine blk_alloc ?_ _)); refine blk_far ?_ NB268_276.out _; (with_reducible repeat (first | refine blk_drewN ?_ _ | refine blk_drew ?_ | refine blk_alloc ?_ _)); refine blk_far ?_ NB268_276.out _; (with_reducible repeat (first | refine blk_drewN ?_ _ | refine blk_drew ?_ | refine blk_alloc ?_ _)); exact BK268.out)) : gb278 ≠ gb268)); have n9_ := Aside0.mk ((by rw [hg]; exact Nat.ne_of_lt (blk_lt (g := gb276) (o := .cells #[.int .i64 ((rd_T36 l0_1 x8_2).f0), .int .i64 ((rd_T36 l0_1 x8_2).f1), .int .i64 ((rd_T36 l0_1 x8_2).f2)] 36 (0, 0)) (by (with_reducible repeat (first | refine blk_drewN ?_ _ | refine blk_drew ?_ | refine blk_alloc ?_ _)); refine blk_put (cs := #[.int .i64 ((rd_T36 l0_1 x8_2).f0), .int .i64 ((rd_T36 l0_1 x8_2).f1), .int .i64 0]) ?_ 2 _ rfl; (with_reducible repeat (first | refine blk_drewN ?_ _ | refine blk_drew ?_ | refine blk_alloc ?_ _)); refine blk_put (cs := #[.int .i64 ((rd_T36 l0_1 x8_2).f0), .int .i64 0, .int .i64 0]) ?_ 1 _ rfl; (with_reducible repeat (first | refine blk_drewN ?_ _ | refine blk_drew ?_ | refine blk_alloc ?_ _)); refine blk_put (cs := #[.int .i64 0, .int .i64 0, .int .i64 0]) ?_ 0 _ rfl; (with_reducible repeat (first | refine blk_drewN ?_ _ | refine blk_drew ?_ | refine blk_alloc ?_ _)); exact BK276.out)) : gb276 ≠ gb278)); have n10_ := Aside0.mk ((by rw [hg]; exact Nat.ne_of_gt (blk_lt (g := gb276) (o := .cells #[.int .i64 ((rd_T36 l0_1 x8_2).f0), .int .i64 ((rd_T36 l0_1 x8_2).f1), .int .i64 ((rd_T36 l0_1 x8_2).f2)] 36 (0, 0)) (by (with_reducible repeat (first | refine blk_drewN ?_ _ | refine blk_drew ?_ | refine blk_alloc ?_ _)); refine blk_put (cs := #[.int .i64 ((rd_T36 l0_1 x8_2).f0), .int .i64 ((rd_T36 l0_1 x8_2).f1), .int .i64 0]) ?_ 2 _ rfl; (with_reducible repeat (first | refine blk_drewN ?_ _ | refine blk_drew ?_ | refine blk_alloc ?_ _)); refine blk_put (cs := #[.int .i64 ((rd_T36 l0_1 x8_2).f0), .int .i64 0, .int .i64 0]) ?_ 1 _ rfl; (with_reducible repeat (first | refine blk_drewN ?_ _ | refine blk_drew ?_ | refine blk_alloc ?_ _)); refine blk_put (cs := #[.int .i64 0, .int .i64 0, .int .i64 0]) ?_ 0 _ rfl; (with_reducible repeat (first | refine blk_drewN ?_ _ | refine blk_drew ?_ | refine blk_alloc ?_ _)); exact BK276.out)) : gb278 ≠ gb276)); clear HO_6; clear BK268; clear BK276; clear HB; have HO_6 := n0_; have BK268 := n1_; have BK276 := n2_; have HB := n3_; have BK278 := n4_; have GW278 := n5_; have GE278 := n6_; have NB268_278 := n7_; have NB278_268 := n8_; have NB276_278 := n9_; have NB278_276 := n10_; clear n0_ n1_ n2_ n3_ n4_ n5_ n6_ n7_ n8_ n9_ n10_; clear hb hbox hg; have hnb27 := NB278_268.out; have hnc27 := NB268_278.out; have hnb28 := NB278_276.out; have hnc28 := NB276_278.out; have hcz29_0 : w26.cell? ⟨gb278, 0, none⟩ = some (.int .i64 0) := (blk_cell BK278.out 0).trans rfl; have hcz29_1 : w26.cell? ⟨gb278, 1, none⟩ = some (.int .i64 0) := (blk_cell BK278.out 1).trans rfl; have hcz29_2 : w26.cell? ⟨gb278, 2, none⟩ = some (.int .i64 0) := (blk_cell BK278.out 2).trans rfl; have hcz29_3 : w26.cell? ⟨gb278, 3, none⟩ = some (.int .i64 0) := (blk_cell BK278.out 3).trans rfl; have hfz29_0 := blk_frozen BK278.out 0; have hfz29_1 := blk_frozen BK278.out 1; have hfz29_2 := blk_frozen BK278.out 2; have hfz29_3 := blk_frozen BK278.out 3))
              (try simp only [Act.put, List.setIfInBounds_toArray, List.set_cons_zero, List.set_cons_succ])
              go_cut [60] (fun v60 wc => ∃ (kq : Nat) (x60_19 : Bool), v60 = .bool x60_19 ∧ Aside0 (meanderref09_round.j2 kq a1 t270 x6_2 x7_1 x8_2 x60_19 l0_0 l0_1 ((rd_T36 l0_1 x8_2).f0) ((rd_T36 l0_1 x8_2).f1) ((rd_T36 l0_1 x8_2).f2) = some r) ∧ Aside0 (kq ≤ k2) ∧ Aside0 (Kd.R Kd.bool 4 wc w.heap.size (fun _ => True) v272 x6_2) ∧ Aside0 (wc.heap[gb268]? = some (.cells #[(.slice (some ad269) l0_0.length c0_0), (.slice (some ad275) l0_1.length c0_1)] 29 (0, 0))) ∧ Aside0 (wc.heap[gb276]? = some (.cells #[.int .i64 ((rd_T36 l0_1 x8_2).f0), .int .i64 ((rd_T36 l0_1 x8_2).f1), .int .i64 ((rd_T36 l0_1 x8_2).f2)] 36 (0, 0))) ∧ Aside0 (wc.heap[gb278]? = some (.cells #[.int .i64 ((rd_T23 l0_0 ((rd_T36 l0_1 x8_2).f1)).f0), .int .i64 ((rd_T23 l0_0 ((rd_T36 l0_1 x8_2).f1)).f1), .int .i64 ((rd_T23 l0_0 ((rd_T36 l0_1 x8_2).f1)).f2), .int .i64 ((rd_T23 l0_0 ((rd_T36 l0_1 x8_2).f1)).f3)] 23 (0, 0))) ∧ Aside0 (Below w.heap.size w wc))
              case first =>
               have H := HC20.out
               clear HC20
               replace H := Option.bind_eq_some_iff.mp H
               obtain ⟨t279, A300, H⟩ := H
               replace H : (if t279 < t270 then (meanderref09_round.j2 k2 a1 t270 x6_2 x7_1 x8_2 true l0_0 l0_1 ((rd_T36 l0_1 x8_2).f0) ((rd_T36 l0_1 x8_2).f1) ((rd_T36 l0_1 x8_2).f2)) else (if ((rd_T23 l0_0 ((rd_T36 l0_1 x8_2).f1)).f0) = 10 then (meanderref09_round.j2 k2 a1 t270 x6_2 x7_1 x8_2 (((rd_T23 l0_0 ((rd_T36 l0_1 x8_2).f1)).f3) == t270) l0_0 l0_1 ((rd_T36 l0_1 x8_2).f0) ((rd_T36 l0_1 x8_2).f1) ((rd_T36 l0_1 x8_2).f2)) else (meanderref09_round.j2 k2 a1 t270 x6_2 x7_1 x8_2 false l0_0 l0_1 ((rd_T36 l0_1 x8_2).f0) ((rd_T36 l0_1 x8_2).f1) ((rd_T36 l0_1 x8_2).f2)))) = some r := H
               have A30 := Aside0.mk A300
               clear A300
               by_cases c31 : t279 < t270
               ·rw [if_pos c31] at H
                have c31b0 : decide (t279 < t270) = true := decide_eq_true c31
                clear c31
                (first | rw [c31b0] | (simp only [i64_w, i32_w]; rw [c31b0]) | skip)
                have H' := Aside0.mk H
                clear H
                have hnb32 := NB278_268.out
                have hnc32 := NB268_278.out
                have hnb33 := NB278_276.out
                have hnc33 := NB276_278.out
                have hcz34_0 : w26.cell? ⟨gb278, 0, none⟩ = some (.int .i64 0) := (blk_cell BK278.out 0).trans rfl
                have hcz34_1 : w26.cell? ⟨gb278, 1, none⟩ = some (.int .i64 0) := (blk_cell BK278.out 1).trans rfl
                have hcz34_2 : w26.cell? ⟨gb278, 2, none⟩ = some (.int .i64 0) := (blk_cell BK278.out 2).trans rfl
                have hcz34_3 : w26.cell? ⟨gb278, 3, none⟩ = some (.int .i64 0) := (blk_cell BK278.out 3).trans rfl
                have hfz34_0 := blk_frozen BK278.out 0
                have hfz34_1 := blk_frozen BK278.out 1
                have hfz34_2 := blk_frozen BK278.out 2
                have hfz34_3 := blk_frozen BK278.out 3
                go_wp2_with (first | ((with_reducible refine gate_callee (f := 65) rfl ?_); refine goesL_ (some 47) rfl rfl Try.func65 (by kernel_rfl) rfl #[.agg #[.int .i64 ((rd_T23 l0_0 ((rd_T36 l0_1 x8_2).f1)).f0), .int .i64 ((rd_T23 l0_0 ((rd_T36 l0_1 x8_2).f1)).f1), .int .i64 ((rd_T23 l0_0 ((rd_T36 l0_1 x8_2).f1)).f2), .int .i64 ((rd_T23 l0_0 ((rd_T36 l0_1 x8_2).f1)).f3)]] rfl (by (try simp only [List.map_toArray, List.map_cons, List.map_nil]); first | done | rfl | (simp only [List.length_drop, List.length_take]; rfl)) ?_; (with_reducible refine (meanderref09_low.calls ((rd_T23 l0_0 ((rd_T36 l0_1 x8_2).f1)).f0) ((rd_T23 l0_0 ((rd_T36 l0_1 x8_2).f1)).f1) ((rd_T23 l0_0 ((rd_T36 l0_1 x8_2).f1)).f2) ((rd_T23 l0_0 ((rd_T36 l0_1 x8_2).f1)).f3) t279 _ A30.out).mono ?_); rintro e w35 ⟨rfl, hb⟩; refine ⟨_, rfl, ?_⟩; have n0_ := Aside0.mk (Kd.R_below (by (with_reducible repeat (first | apply Kd.R_alloc | apply Kd.R_drewN | apply Kd.R_drew)); exact (Kd.R_mono (Kd.R_far (p := ⟨gb278, 3, none⟩) (Kd.R_far (p := ⟨gb278, 2, none⟩) (Kd.R_far (p := ⟨gb278, 1, none⟩) (Kd.R_far (p := ⟨gb278, 0, none⟩) (Kd.R_types HO_6.out BK278.out (by decide)) (fun _ hk => hk.2) (.int .i64 ((rd_T23 l0_0 ((rd_T36 l0_1 x8_2).f1)).f0))) (fun _ hk => hk.2) (.int .i64 ((rd_T23 l0_0 ((rd_T36 l0_1 x8_2).f1)).f1))) (fun _ hk => hk.2) (.int .i64 ((rd_T23 l0_0 ((rd_T36 l0_1 x8_2).f1)).f2))) (fun _ hk => hk.2) (.int .i64 ((rd_T23 l0_0 ((rd_T36 l0_1 x8_2).f1)).f3))) (fun _ h_ => h_.1))) hb); have n1_ := Aside0.mk (blk_below (g := gb268) (o := .cells #[.slice (some ad269) l0_0.length c0_0, .slice (some ad275) l0_1.length c0_1] 29 (0, 0)) (by (with_reducible repeat (first | refine blk_drewN ?_ _ | refine blk_drew ?_ | refine blk_alloc ?_ _)); refine blk_far ?_ NB268_278.out _; (with_reducible repeat (first | refine blk_drewN ?_ _ | refine blk_drew ?_ | refine blk_alloc ?_ _)); refine blk_far ?_ NB268_278.out _; (with_reducible repeat (first | refine blk_drewN ?_ _ | refine blk_drew ?_ | refine blk_alloc ?_ _)); refine blk_far ?_ NB268_278.out _; (with_reducible repeat (first | refine blk_drewN ?_ _ | refine blk_drew ?_ | refine blk_alloc ?_ _)); refine blk_far ?_ NB268_278.out _; (with_reducible repeat (first | refine blk_drewN ?_ _ | refine blk_drew ?_ | refine blk_alloc ?_ _)); exact BK268.out) hb); have n2_ := Aside0.mk (blk_below (g := gb276) (o := .cells #[.int .i64 ((rd_T36 l0_1 x8_2).f0), .int .i64 ((rd_T36 l0_1 x8_2).f1), .int .i64 ((rd_T36 l0_1 x8_2).f2)] 36 (0, 0)) (by (with_reducible repeat (first | refine blk_drewN ?_ _ | refine blk_drew ?_ | refine blk_alloc ?_ _)); refine blk_far ?_ NB276_278.out _; (with_reducible repeat (first | refine blk_drewN ?_ _ | refine blk_drew ?_ | refine blk_alloc ?_ _)); refine blk_far ?_ NB276_278.out _; (with_reducible repeat (first | refine blk_drewN ?_ _ | refine blk_drew ?_ | refine blk_alloc ?_ _)); refine blk_far ?_ NB276_278.out _; (with_reducible repeat (first | refine blk_drewN ?_ _ | refine blk_drew ?_ | refine blk_alloc ?_ _)); refine blk_far ?_ NB276_278.out _; (with_reducible repeat (first | refine blk_drewN ?_ _ | refine blk_drew ?_ | refine blk_alloc ?_ _)); exact BK276.out) hb); have n3_ := Aside0.mk (blk_below (g := gb278) (o := .cells #[.int .i64 ((rd_T23 l0_0 ((rd_T36 l0_1 x8_2).f1)).f0), .int .i64 ((rd_T23 l0_0 ((rd_T36 l0_1 x8_2).f1)).f1), .int .i64 ((rd_T23 l0_0 ((rd_T36 l0_1 x8_2).f1)).f2), .int .i64 ((rd_T23 l0_0 ((rd_T36 l0_1 x8_2).f1)).f3)] 23 (0, 0)) (by (with_reducible repeat (first | refine blk_drewN ?_ _ | refine blk_drew ?_ | refine blk_alloc ?_ _)); refine blk_put (cs := #[.int .i64 ((rd_T23 l0_0 ((rd_T36 l0_1 x8_2).f1)).f0), .int .i64 ((rd_T23 l0_0 ((rd_T36 l0_1 x8_2).f1)).f1), .int .i64 ((rd_T23 l0_0 ((rd_T36 l0_1 x8_2).f1)).f2), .int .i64 0]) ?_ 3 _ rfl; (with_reducible repeat (first | refine blk_drewN ?_ _ | refine blk_drew ?_ | refine blk_alloc ?_ _)); refine blk_put (cs := #[.int .i64 ((rd_T23 l0_0 ((rd_T36 l0_1 x8_2).f1)).f0), .int .i64 ((rd_T23 l0_0 ((rd_T36 l0_1 x8_2).f1)).f1), .int .i64 0, .int .i64 0]) ?_ 2 _ rfl; (with_reducible repeat (first | refine blk_drewN ?_ _ | refine blk_drew ?_ | refine blk_alloc ?_ _)); refine blk_put (cs := #[.int .i64 ((rd_T23 l0_0 ((rd_T36 l0_1 x8_2).f1)).f0), .int .i64 0, .int .i64 0, .int .i64 0]) ?_ 1 _ rfl; (with_reducible repeat (first | refine blk_drewN ?_ _ | refine blk_drew ?_ | refine blk_alloc ?_ _)); refine blk_put (cs := #[.int .i64 0, .int .i64 0, .int .i64 0, .int .i64 0]) ?_ 0 _ rfl; (with_reducible repeat (first | refine blk_drewN ?_ _ | refine blk_drew ?_ | refine blk_alloc ?_ _)); exact BK278.out) hb); have n4_ := Aside0.mk (below_step (by repeat (first | (with_reducible first | exact HB.out | apply below_alloc | apply pw_below_drewN | apply below_drew1 | refine below_set ?_ GE268.out | refine below_set ?_ GE276.out | refine below_set ?_ GE278.out) | exact HB.out)) hb); clear HO_6; clear BK268; clear BK276; clear BK278; clear HB; have HO_6 := n0_; have BK268 := n1_; have BK276 := n2_; have BK278 := n3_; have HB := n4_; clear n0_ n1_ n2_ n3_ n4_; (try clear hb); (try clear hb2); (try clear hk); (try clear hi)))
                go_meet
                case rel => exact ⟨_, (true), (by first | rfl | (simp; done) | (simp [*]; done)), H', ⟨by have := HK1.out; have := HK2.out; first | omega | exact Nat.le_refl _⟩, ⟨by (with_reducible repeat (first | apply Kd.R_alloc | apply Kd.R_drewN | apply Kd.R_drew)); exact HO_6.out⟩, ⟨by (with_reducible repeat (first | refine blk_drewN ?_ _ | refine blk_drew ?_ | refine blk_alloc ?_ _)); exact BK268.out⟩, ⟨by (with_reducible repeat (first | refine blk_drewN ?_ _ | refine blk_drew ?_ | refine blk_alloc ?_ _)); exact BK276.out⟩, ⟨by (with_reducible repeat (first | refine blk_drewN ?_ _ | refine blk_drew ?_ | refine blk_alloc ?_ _)); exact BK278.out⟩, ⟨by repeat (first | (with_reducible first | exact HB.out | apply below_alloc | apply pw_below_drewN | apply below_drew1 | refine below_set ?_ GE268.out | refine below_set ?_ GE276.out | refine below_set ?_ GE278.out) | exact HB.out)⟩⟩
               ·rw [if_neg c31] at H
                have c31b0 : decide (t279 < t270) = false := decide_eq_false c31
                clear c31
                (first | rw [c31b0] | (simp only [i64_w, i32_w]; rw [c31b0]) | skip)
                by_cases c36 : ((rd_T23 l0_0 ((rd_T36 l0_1 x8_2).f1)).f0) = 10
                ·rw [if_pos c36] at H
                 have c36b0 : (((rd_T23 l0_0 ((rd_T36 l0_1 x8_2).f1)).f0) == 10) = true := beq_iff_eq.mpr c36
                 have c36b1 : (((rd_T23 l0_0 ((rd_T36 l0_1 x8_2).f1)).f0) != 10) = false := bne_eq_false_iff_eq.mpr c36
                 clear c36
                 have H' := Aside0.mk H
                 clear H
                 have hnb37 := NB278_268.out
                 have hnc37 := NB268_278.out
                 have hnb38 := NB278_276.out
                 have hnc38 := NB276_278.out
                 have hcz39_0 : w26.cell? ⟨gb278, 0, none⟩ = some (.int .i64 0) := (blk_cell BK278.out 0).trans rfl
                 have hcz39_1 : w26.cell? ⟨gb278, 1, none⟩ = some (.int .i64 0) := (blk_cell BK278.out 1).trans rfl
                 have hcz39_2 : w26.cell? ⟨gb278, 2, none⟩ = some (.int .i64 0) := (blk_cell BK278.out 2).trans rfl
                 have hcz39_3 : w26.cell? ⟨gb278, 3, none⟩ = some (.int .i64 0) := (blk_cell BK278.out 3).trans rfl
                 have hfz39_0 := blk_frozen BK278.out 0
                 have hfz39_1 := blk_frozen BK278.out 1
                 have hfz39_2 := blk_frozen BK278.out 2
                 have hfz39_3 := blk_frozen BK278.out 3
                 go_wp2_with (first | ((with_reducible refine gate_callee (f := 65) rfl ?_); refine goesL_ (some 47) rfl rfl Try.func65 (by kernel_rfl) rfl #[.agg #[.int .i64 ((rd_T23 l0_0 ((rd_T36 l0_1 x8_2).f1)).f0), .int .i64 ((rd_T23 l0_0 ((rd_T36 l0_1 x8_2).f1)).f1), .int .i64 ((rd_T23 l0_0 ((rd_T36 l0_1 x8_2).f1)).f2), .int .i64 ((rd_T23 l0_0 ((rd_T36 l0_1 x8_2).f1)).f3)]] rfl (by (try simp only [List.map_toArray, List.map_cons, List.map_nil]); first | done | rfl | (simp only [List.length_drop, List.length_take]; rfl)) ?_; (with_reducible refine (meanderref09_low.calls ((rd_T23 l0_0 ((rd_T36 l0_1 x8_2).f1)).f0) ((rd_T23 l0_0 ((rd_T36 l0_1 x8_2).f1)).f1) ((rd_T23 l0_0 ((rd_T36 l0_1 x8_2).f1)).f2) ((rd_T23 l0_0 ((rd_T36 l0_1 x8_2).f1)).f3) t279 _ A30.out).mono ?_); rintro e w40 ⟨rfl, hb⟩; refine ⟨_, rfl, ?_⟩; have n0_ := Aside0.mk (Kd.R_below (by (with_reducible repeat (first | apply Kd.R_alloc | apply Kd.R_drewN | apply Kd.R_drew)); exact (Kd.R_mono (Kd.R_far (p := ⟨gb278, 3, none⟩) (Kd.R_far (p := ⟨gb278, 2, none⟩) (Kd.R_far (p := ⟨gb278, 1, none⟩) (Kd.R_far (p := ⟨gb278, 0, none⟩) (Kd.R_types HO_6.out BK278.out (by decide)) (fun _ hk => hk.2) (.int .i64 ((rd_T23 l0_0 ((rd_T36 l0_1 x8_2).f1)).f0))) (fun _ hk => hk.2) (.int .i64 ((rd_T23 l0_0 ((rd_T36 l0_1 x8_2).f1)).f1))) (fun _ hk => hk.2) (.int .i64 ((rd_T23 l0_0 ((rd_T36 l0_1 x8_2).f1)).f2))) (fun _ hk => hk.2) (.int .i64 ((rd_T23 l0_0 ((rd_T36 l0_1 x8_2).f1)).f3))) (fun _ h_ => h_.1))) hb); have n1_ := Aside0.mk (blk_below (g := gb268) (o := .cells #[.slice (some ad269) l0_0.length c0_0, .slice (some ad275) l0_1.length c0_1] 29 (0, 0)) (by (with_reducible repeat (first | refine blk_drewN ?_ _ | refine blk_drew ?_ | refine blk_alloc ?_ _)); refine blk_far ?_ NB268_278.out _; (with_reducible repeat (first | refine blk_drewN ?_ _ | refine blk_drew ?_ | refine blk_alloc ?_ _)); refine blk_far ?_ NB268_278.out _; (with_reducible repeat (first | refine blk_drewN ?_ _ | refine blk_drew ?_ | refine blk_alloc ?_ _)); refine blk_far ?_ NB268_278.out _; (with_reducible repeat (first | refine blk_drewN ?_ _ | refine blk_drew ?_ | refine blk_alloc ?_ _)); refine blk_far ?_ NB268_278.out _; (with_reducible repeat (first | refine blk_drewN ?_ _ | refine blk_drew ?_ | refine blk_alloc ?_ _)); exact BK268.out) hb); have n2_ := Aside0.mk (blk_below (g := gb276) (o := .cells #[.int .i64 ((rd_T36 l0_1 x8_2).f0), .int .i64 ((rd_T36 l0_1 x8_2).f1), .int .i64 ((rd_T36 l0_1 x8_2).f2)] 36 (0, 0)) (by (with_reducible repeat (first | refine blk_drewN ?_ _ | refine blk_drew ?_ | refine blk_alloc ?_ _)); refine blk_far ?_ NB276_278.out _; (with_reducible repeat (first | refine blk_drewN ?_ _ | refine blk_drew ?_ | refine blk_alloc ?_ _)); refine blk_far ?_ NB276_278.out _; (with_reducible repeat (first | refine blk_drewN ?_ _ | refine blk_drew ?_ | refine blk_alloc ?_ _)); refine blk_far ?_ NB276_278.out _; (with_reducible repeat (first | refine blk_drewN ?_ _ | refine blk_drew ?_ | refine blk_alloc ?_ _)); refine blk_far ?_ NB276_278.out _; (with_reducible repeat (first | refine blk_drewN ?_ _ | refine blk_drew ?_ | refine blk_alloc ?_ _)); exact BK276.out) hb); have n3_ := Aside0.mk (blk_below (g := gb278) (o := .cells #[.int .i64 ((rd_T23 l0_0 ((rd_T36 l0_1 x8_2).f1)).f0), .int .i64 ((rd_T23 l0_0 ((rd_T36 l0_1 x8_2).f1)).f1), .int .i64 ((rd_T23 l0_0 ((rd_T36 l0_1 x8_2).f1)).f2), .int .i64 ((rd_T23 l0_0 ((rd_T36 l0_1 x8_2).f1)).f3)] 23 (0, 0)) (by (with_reducible repeat (first | refine blk_drewN ?_ _ | refine blk_drew ?_ | refine blk_alloc ?_ _)); refine blk_put (cs := #[.int .i64 ((rd_T23 l0_0 ((rd_T36 l0_1 x8_2).f1)).f0), .int .i64 ((rd_T23 l0_0 ((rd_T36 l0_1 x8_2).f1)).f1), .int .i64 ((rd_T23 l0_0 ((rd_T36 l0_1 x8_2).f1)).f2), .int .i64 0]) ?_ 3 _ rfl; (with_reducible repeat (first | refine blk_drewN ?_ _ | refine blk_drew ?_ | refine blk_alloc ?_ _)); refine blk_put (cs := #[.int .i64 ((rd_T23 l0_0 ((rd_T36 l0_1 x8_2).f1)).f0), .int .i64 ((rd_T23 l0_0 ((rd_T36 l0_1 x8_2).f1)).f1), .int .i64 0, .int .i64 0]) ?_ 2 _ rfl; (with_reducible repeat (first | refine blk_drewN ?_ _ | refine blk_drew ?_ | refine blk_alloc ?_ _)); refine blk_put (cs := #[.int .i64 ((rd_T23 l0_0 ((rd_T36 l0_1 x8_2).f1)).f0), .int .i64 0, .int .i64 0, .int .i64 0]) ?_ 1 _ rfl; (with_reducible repeat (first | refine blk_drewN ?_ _ | refine blk_drew ?_ | refine blk_alloc ?_ _)); refine blk_put (cs := #[.int .i64 0, .int .i64 0, .int .i64 0, .int .i64 0]) ?_ 0 _ rfl; (with_reducible repeat (first | refine blk_drewN ?_ _ | refine blk_drew ?_ | refine blk_alloc ?_ _)); exact BK278.out) hb); have n4_ := Aside0.mk (below_step (by repeat (first | (with_reducible first | exact HB.out | apply below_alloc | apply pw_below_drewN | apply below_drew1 | refine below_set ?_ GE268.out | refine below_set ?_ GE276.out | refine below_set ?_ GE278.out) | exact HB.out)) hb); clear HO_6; clear BK268; clear BK276; clear BK278; clear HB; have HO_6 := n0_; have BK268 := n1_; have BK276 := n2_; have BK278 := n3_; have HB := n4_; clear n0_ n1_ n2_ n3_ n4_; (try clear hb); (try clear hb2); (try clear hk); (try clear hi); have hcz41_0 : w40.cell? ⟨gb278, 0, none⟩ = some (.int .i64 ((rd_T23 l0_0 ((rd_T36 l0_1 x8_2).f1)).f0)) := (blk_cell BK278.out 0).trans rfl; have hcz41_1 : w40.cell? ⟨gb278, 1, none⟩ = some (.int .i64 ((rd_T23 l0_0 ((rd_T36 l0_1 x8_2).f1)).f1)) := (blk_cell BK278.out 1).trans rfl; have hcz41_2 : w40.cell? ⟨gb278, 2, none⟩ = some (.int .i64 ((rd_T23 l0_0 ((rd_T36 l0_1 x8_2).f1)).f2)) := (blk_cell BK278.out 2).trans rfl; have hcz41_3 : w40.cell? ⟨gb278, 3, none⟩ = some (.int .i64 ((rd_T23 l0_0 ((rd_T36 l0_1 x8_2).f1)).f3)) := (blk_cell BK278.out 3).trans rfl; have hfz41_0 := blk_frozen BK278.out 0; have hfz41_1 := blk_frozen BK278.out 1; have hfz41_2 := blk_frozen BK278.out 2; have hfz41_3 := blk_frozen BK278.out 3))
                 go_meet
                 case rel => exact ⟨_, ((((rd_T23 l0_0 ((rd_T36 l0_1 x8_2).f1)).f3) == t270)), (by first | rfl | (simp; done) | (simp [*]; done)), H', ⟨by have := HK1.out; have := HK2.out; first | omega | exact Nat.le_refl _⟩, ⟨by (with_reducible repeat (first | apply Kd.R_alloc | apply Kd.R_drewN | apply Kd.R_drew)); exact HO_6.out⟩, ⟨by (with_reducible repeat (first | refine blk_drewN ?_ _ | refine blk_drew ?_ | refine blk_alloc ?_ _)); exact BK268.out⟩, ⟨by (with_reducible repeat (first | refine blk_drewN ?_ _ | refine blk_drew ?_ | refine blk_alloc ?_ _)); exact BK276.out⟩, ⟨by (with_reducible repeat (first | refine blk_drewN ?_ _ | refine blk_drew ?_ | refine blk_alloc ?_ _)); exact BK278.out⟩, ⟨by repeat (first | (with_reducible first | exact HB.out | apply below_alloc | apply pw_below_drewN | apply below_drew1 | refine below_set ?_ GE268.out | refine below_set ?_ GE276.out | refine below_set ?_ GE278.out) | exact HB.out)⟩⟩
                ·rw [if_neg c36] at H
                 have c36b0 : (((rd_T23 l0_0 ((rd_T36 l0_1 x8_2).f1)).f0) == 10) = false := beq_eq_false_iff_ne.mpr c36
                 have c36b1 : (((rd_T23 l0_0 ((rd_T36 l0_1 x8_2).f1)).f0) != 10) = true := bne_iff_ne.mpr c36
                 have H' := Aside0.mk H
                 clear H
                 have hnb42 := NB278_268.out
                 have hnc42 := NB268_278.out
                 have hnb43 := NB278_276.out
                 have hnc43 := NB276_278.out
                 have hcz44_0 : w26.cell? ⟨gb278, 0, none⟩ = some (.int .i64 0) := (blk_cell BK278.out 0).trans rfl
                 have hcz44_1 : w26.cell? ⟨gb278, 1, none⟩ = some (.int .i64 0) := (blk_cell BK278.out 1).trans rfl
                 have hcz44_2 : w26.cell? ⟨gb278, 2, none⟩ = some (.int .i64 0) := (blk_cell BK278.out 2).trans rfl
                 have hcz44_3 : w26.cell? ⟨gb278, 3, none⟩ = some (.int .i64 0) := (blk_cell BK278.out 3).trans rfl
                 have hfz44_0 := blk_frozen BK278.out 0
                 have hfz44_1 := blk_frozen BK278.out 1
                 have hfz44_2 := blk_frozen BK278.out 2
                 have hfz44_3 := blk_frozen BK278.out 3
                 go_wp2_with (first | ((with_reducible refine gate_callee (f := 65) rfl ?_); refine goesL_ (some 47) rfl rfl Try.func65 (by kernel_rfl) rfl #[.agg #[.int .i64 ((rd_T23 l0_0 ((rd_T36 l0_1 x8_2).f1)).f0), .int .i64 ((rd_T23 l0_0 ((rd_T36 l0_1 x8_2).f1)).f1), .int .i64 ((rd_T23 l0_0 ((rd_T36 l0_1 x8_2).f1)).f2), .int .i64 ((rd_T23 l0_0 ((rd_T36 l0_1 x8_2).f1)).f3)]] rfl (by (try simp only [List.map_toArray, List.map_cons, List.map_nil]); first | done | rfl | (simp only [List.length_drop, List.length_take]; rfl)) ?_; (with_reducible refine (meanderref09_low.calls ((rd_T23 l0_0 ((rd_T36 l0_1 x8_2).f1)).f0) ((rd_T23 l0_0 ((rd_T36 l0_1 x8_2).f1)).f1) ((rd_T23 l0_0 ((rd_T36 l0_1 x8_2).f1)).f2) ((rd_T23 l0_0 ((rd_T36 l0_1 x8_2).f1)).f3) t279 _ A30.out).mono ?_); rintro e w45 ⟨rfl, hb⟩; refine ⟨_, rfl, ?_⟩; have n0_ := Aside0.mk (Kd.R_below (by (with_reducible repeat (first | apply Kd.R_alloc | apply Kd.R_drewN | apply Kd.R_drew)); exact (Kd.R_mono (Kd.R_far (p := ⟨gb278, 3, none⟩) (Kd.R_far (p := ⟨gb278, 2, none⟩) (Kd.R_far (p := ⟨gb278, 1, none⟩) (Kd.R_far (p := ⟨gb278, 0, none⟩) (Kd.R_types HO_6.out BK278.out (by decide)) (fun _ hk => hk.2) (.int .i64 ((rd_T23 l0_0 ((rd_T36 l0_1 x8_2).f1)).f0))) (fun _ hk => hk.2) (.int .i64 ((rd_T23 l0_0 ((rd_T36 l0_1 x8_2).f1)).f1))) (fun _ hk => hk.2) (.int .i64 ((rd_T23 l0_0 ((rd_T36 l0_1 x8_2).f1)).f2))) (fun _ hk => hk.2) (.int .i64 ((rd_T23 l0_0 ((rd_T36 l0_1 x8_2).f1)).f3))) (fun _ h_ => h_.1))) hb); have n1_ := Aside0.mk (blk_below (g := gb268) (o := .cells #[.slice (some ad269) l0_0.length c0_0, .slice (some ad275) l0_1.length c0_1] 29 (0, 0)) (by (with_reducible repeat (first | refine blk_drewN ?_ _ | refine blk_drew ?_ | refine blk_alloc ?_ _)); refine blk_far ?_ NB268_278.out _; (with_reducible repeat (first | refine blk_drewN ?_ _ | refine blk_drew ?_ | refine blk_alloc ?_ _)); refine blk_far ?_ NB268_278.out _; (with_reducible repeat (first | refine blk_drewN ?_ _ | refine blk_drew ?_ | refine blk_alloc ?_ _)); refine blk_far ?_ NB268_278.out _; (with_reducible repeat (first | refine blk_drewN ?_ _ | refine blk_drew ?_ | refine blk_alloc ?_ _)); refine blk_far ?_ NB268_278.out _; (with_reducible repeat (first | refine blk_drewN ?_ _ | refine blk_drew ?_ | refine blk_alloc ?_ _)); exact BK268.out) hb); have n2_ := Aside0.mk (blk_below (g := gb276) (o := .cells #[.int .i64 ((rd_T36 l0_1 x8_2).f0), .int .i64 ((rd_T36 l0_1 x8_2).f1), .int .i64 ((rd_T36 l0_1 x8_2).f2)] 36 (0, 0)) (by (with_reducible repeat (first | refine blk_drewN ?_ _ | refine blk_drew ?_ | refine blk_alloc ?_ _)); refine blk_far ?_ NB276_278.out _; (with_reducible repeat (first | refine blk_drewN ?_ _ | refine blk_drew ?_ | refine blk_alloc ?_ _)); refine blk_far ?_ NB276_278.out _; (with_reducible repeat (first | refine blk_drewN ?_ _ | refine blk_drew ?_ | refine blk_alloc ?_ _)); refine blk_far ?_ NB276_278.out _; (with_reducible repeat (first | refine blk_drewN ?_ _ | refine blk_drew ?_ | refine blk_alloc ?_ _)); refine blk_far ?_ NB276_278.out _; (with_reducible repeat (first | refine blk_drewN ?_ _ | refine blk_drew ?_ | refine blk_alloc ?_ _)); exact BK276.out) hb); have n3_ := Aside0.mk (blk_below (g := gb278) (o := .cells #[.int .i64 ((rd_T23 l0_0 ((rd_T36 l0_1 x8_2).f1)).f0), .int .i64 ((rd_T23 l0_0 ((rd_T36 l0_1 x8_2).f1)).f1), .int .i64 ((rd_T23 l0_0 ((rd_T36 l0_1 x8_2).f1)).f2), .int .i64 ((rd_T23 l0_0 ((rd_T36 l0_1 x8_2).f1)).f3)] 23 (0, 0)) (by (with_reducible repeat (first | refine blk_drewN ?_ _ | refine blk_drew ?_ | refine blk_alloc ?_ _)); refine blk_put (cs := #[.int .i64 ((rd_T23 l0_0 ((rd_T36 l0_1 x8_2).f1)).f0), .int .i64 ((rd_T23 l0_0 ((rd_T36 l0_1 x8_2).f1)).f1), .int .i64 ((rd_T23 l0_0 ((rd_T36 l0_1 x8_2).f1)).f2), .int .i64 0]) ?_ 3 _ rfl; (with_reducible repeat (first | refine blk_drewN ?_ _ | refine blk_drew ?_ | refine blk_alloc ?_ _)); refine blk_put (cs := #[.int .i64 ((rd_T23 l0_0 ((rd_T36 l0_1 x8_2).f1)).f0), .int .i64 ((rd_T23 l0_0 ((rd_T36 l0_1 x8_2).f1)).f1), .int .i64 0, .int .i64 0]) ?_ 2 _ rfl; (with_reducible repeat (first | refine blk_drewN ?_ _ | refine blk_drew ?_ | refine blk_alloc ?_ _)); refine blk_put (cs := #[.int .i64 ((rd_T23 l0_0 ((rd_T36 l0_1 x8_2).f1)).f0), .int .i64 0, .int .i64 0, .int .i64 0]) ?_ 1 _ rfl; (with_reducible repeat (first | refine blk_drewN ?_ _ | refine blk_drew ?_ | refine blk_alloc ?_ _)); refine blk_put (cs := #[.int .i64 0, .int .i64 0, .int .i64 0, .int .i64 0]) ?_ 0 _ rfl; (with_reducible repeat (first | refine blk_drewN ?_ _ | refine blk_drew ?_ | refine blk_alloc ?_ _)); exact BK278.out) hb); have n4_ := Aside0.mk (below_step (by repeat (first | (with_reducible first | exact HB.out | apply below_alloc | apply pw_below_drewN | apply below_drew1 | refine below_set ?_ GE268.out | refine below_set ?_ GE276.out | refine below_set ?_ GE278.out) | exact HB.out)) hb); clear HO_6; clear BK268; clear BK276; clear BK278; clear HB; have HO_6 := n0_; have BK268 := n1_; have BK276 := n2_; have BK278 := n3_; have HB := n4_; clear n0_ n1_ n2_ n3_ n4_; (try clear hb); (try clear hb2); (try clear hk); (try clear hi); have hcz46_0 : w45.cell? ⟨gb278, 0, none⟩ = some (.int .i64 ((rd_T23 l0_0 ((rd_T36 l0_1 x8_2).f1)).f0)) := (blk_cell BK278.out 0).trans rfl; have hcz46_1 : w45.cell? ⟨gb278, 1, none⟩ = some (.int .i64 ((rd_T23 l0_0 ((rd_T36 l0_1 x8_2).f1)).f1)) := (blk_cell BK278.out 1).trans rfl; have hcz46_2 : w45.cell? ⟨gb278, 2, none⟩ = some (.int .i64 ((rd_T23 l0_0 ((rd_T36 l0_1 x8_2).f1)).f2)) := (blk_cell BK278.out 2).trans rfl; have hcz46_3 : w45.cell? ⟨gb278, 3, none⟩ = some (.int .i64 ((rd_T23 l0_0 ((rd_T36 l0_1 x8_2).f1)).f3)) := (blk_cell BK278.out 3).trans rfl; have hfz46_0 := blk_frozen BK278.out 0; have hfz46_1 := blk_frozen BK278.out 1; have hfz46_2 := blk_frozen BK278.out 2; have hfz46_3 := blk_frozen BK278.out 3))
                 go_meet
                 case rel => exact ⟨_, (false), (by first | rfl | (simp; done) | (simp [*]; done)), H', ⟨by have := HK1.out; have := HK2.out; first | omega | exact Nat.le_refl _⟩, ⟨by (with_reducible repeat (first | apply Kd.R_alloc | apply Kd.R_drewN | apply Kd.R_drew)); exact HO_6.out⟩, ⟨by (with_reducible repeat (first | refine blk_drewN ?_ _ | refine blk_drew ?_ | refine blk_alloc ?_ _)); exact BK268.out⟩, ⟨by (with_reducible repeat (first | refine blk_drewN ?_ _ | refine blk_drew ?_ | refine blk_alloc ?_ _)); exact BK276.out⟩, ⟨by (with_reducible repeat (first | refine blk_drewN ?_ _ | refine blk_drew ?_ | refine blk_alloc ?_ _)); exact BK278.out⟩, ⟨by repeat (first | (with_reducible first | exact HB.out | apply below_alloc | apply pw_below_drewN | apply below_drew1 | refine below_set ?_ GE268.out | refine below_set ?_ GE276.out | refine below_set ?_ GE278.out) | exact HB.out)⟩⟩
              case rest =>
               clear HC20
               try clear c1
               try clear c2
               try clear p2
               try clear q2
               try clear hx2
               try clear c3
               try clear c3b0
               try clear c4
               try clear c4b0
               try clear c6
               try clear c6b0
               try clear c6b1
               try clear c7
               try clear c7b0
               try clear c7b1
               try clear c14
               try clear c14b0
               try clear c16
               try clear c16b0
               try clear c17
               try clear c17b0
               try clear c18
               try clear c18b0
               try clear c19
               try clear c19b0
               try clear c23
               try clear p26
               try clear q26
               try clear hx26
               try clear c27
               try clear p27
               try clear q27
               try clear hx27
               try clear c28
               try clear c31
               try clear c31b0
               try clear c32
               try clear c33
               try clear c36
               try clear c36b0
               try clear c36b1
               try clear c37
               try clear c38
               try clear c42
               try clear c43
               try clear hcz11_0
               try clear hcz11_1
               try clear hcz15_0
               try clear hcz15_1
               try clear hcz21_0
               try clear hcz21_1
               try clear hcz24_0
               try clear hcz24_1
               try clear hcz24_2
               try clear hcz25_0
               try clear hcz25_1
               try clear hcz29_0
               try clear hcz29_1
               try clear hcz29_2
               try clear hcz29_3
               try clear hcz34_0
               try clear hcz34_1
               try clear hcz34_2
               try clear hcz34_3
               try clear hcz39_0
               try clear hcz39_1
               try clear hcz39_2
               try clear hcz39_3
               try clear hcz41_0
               try clear hcz41_1
               try clear hcz41_2
               try clear hcz41_3
               try clear hcz44_0
               try clear hcz44_1
               try clear hcz44_2
               try clear hcz44_3
               try clear hcz46_0
               try clear hcz46_1
               try clear hcz46_2
               try clear hcz46_3
               try clear hcz9_0
               try clear hcz9_1
               try clear hfz11_0
               try clear hfz11_1
               try clear hfz15_0
               try clear hfz15_1
               try clear hfz21_0
               try clear hfz21_1
               try clear hfz24_0
               try clear hfz24_1
               try clear hfz24_2
               try clear hfz25_0
               try clear hfz25_1
               try clear hfz29_0
               try clear hfz29_1
               try clear hfz29_2
               try clear hfz29_3
               try clear hfz34_0
               try clear hfz34_1
               try clear hfz34_2
               try clear hfz34_3
               try clear hfz39_0
               try clear hfz39_1
               try clear hfz39_2
               try clear hfz39_3
               try clear hfz41_0
               try clear hfz41_1
               try clear hfz41_2
               try clear hfz41_3
               try clear hfz44_0
               try clear hfz44_1
               try clear hfz44_2
               try clear hfz44_3
               try clear hfz46_0
               try clear hfz46_1
               try clear hfz46_2
               try clear hfz46_3
               try clear hfz9_0
               try clear hfz9_1
               try clear hx269_0
               try clear hx269_1
               try clear hx269_2
               try clear hx269_3
               try clear hx275_0
               try clear hx275_1
               try clear hx275_2
               try clear hx277_0
               try clear hx277_1
               try clear hx277_2
               try clear hx277_3
               try clear p2
               try clear p269
               try clear p275
               try clear p277
               try clear q2
               try clear q269
               try clear q275
               try clear q277
               obtain ⟨kq, x60_19, rfl, HA, HJ19, HO_6, BK268, BK276, BK278, HB⟩ := hcut
               cases kq with
               | zero => exact absurd HA.out (by simp [meanderref09_round.j2])
               | succ kj19 =>
                have H := HA.out
                clear HA
                simp only [meanderref09_round.j2] at H
                by_cases c47 : x60_19 = true
                ·subst c47
                 have H1 : (meanderref09_round.l1 kj19 a1 t270 x6_2 x7_1 (wrap64 (x8_2 + 1)) l0_0 l0_1) = some r := by rw [if_pos rfl] at H; exact H
                 clear H
                 have H := H1
                 clear H1
                 have H' := Aside0.mk H
                 clear H
                 go_wp2
                 go_roundg kj19
                 case measure => have := HK1.out; have := HK2.out; have := HJ19.out; omega
                 case rel => exact ⟨(x6_2), (wrap64 (x8_2 + 1)), (by first | rfl | (simp; done) | (simp [*]; done)), H', ⟨by have := HK1.out; have := HK2.out; have := HJ19.out; omega⟩, ⟨by (with_reducible repeat (first | apply Kd.R_alloc | apply Kd.R_drewN | apply Kd.R_drew)); exact HO_6.out⟩, ⟨by (with_reducible repeat (first | refine blk_drewN ?_ _ | refine blk_drew ?_ | refine blk_alloc ?_ _)); exact BK268.out⟩, ⟨by repeat (first | (with_reducible first | exact HB.out | apply below_alloc | apply pw_below_drewN | apply below_drew1 | refine below_set ?_ GE268.out | refine below_set ?_ GE276.out | refine below_set ?_ GE278.out) | exact HB.out)⟩⟩
                ·replace c47 := Bool.eq_false_iff.mpr c47
                 subst c47
                 have H1 : (if ((rd_T36 l0_1 x8_2).f0) = a1 then (if 0 ≤ ((rd_T36 l0_1 x8_2).f1) then (if ((rd_T36 l0_1 x8_2).f1) < (x6_2.length : Int) then (meanderref09_round.l1 kj19 a1 t270 (x6_2.set (((rd_T36 l0_1 x8_2).f1) : Int).toNat true) x7_1 (wrap64 (x8_2 + 1)) l0_0 l0_1) else (none)) else (none)) else (if 0 ≤ ((rd_T36 l0_1 x8_2).f0) then (if ((rd_T36 l0_1 x8_2).f0) < (x6_2.length : Int) then (if rdOf false x6_2 ((rd_T36 l0_1 x8_2).f0) = true then (if 0 ≤ ((rd_T36 l0_1 x8_2).f1) then (if ((rd_T36 l0_1 x8_2).f1) < (x6_2.length : Int) then (meanderref09_round.l1 kj19 a1 t270 (x6_2.set (((rd_T36 l0_1 x8_2).f1) : Int).toNat true) x7_1 (wrap64 (x8_2 + 1)) l0_0 l0_1) else (none)) else (none)) else (meanderref09_round.l1 kj19 a1 t270 x6_2 x7_1 (wrap64 (x8_2 + 1)) l0_0 l0_1)) else (none)) else (none))) = some r := by rw [if_neg (show ¬ (false = true) by decide)] at H; exact H
                 clear H
                 have H := H1
                 clear H1
                 by_cases c48 : ((rd_T36 l0_1 x8_2).f0) = a1
                 ·rw [if_pos c48] at H
                  have c48b0 : (((rd_T36 l0_1 x8_2).f0) == a1) = true := beq_iff_eq.mpr c48
                  have c48b1 : (((rd_T36 l0_1 x8_2).f0) != a1) = false := bne_eq_false_iff_eq.mpr c48
                  clear c48
                  by_cases c49 : 0 ≤ ((rd_T36 l0_1 x8_2).f1)
                  ·rw [if_pos c49] at H
                   have c49b0 : decide (0 ≤ ((rd_T36 l0_1 x8_2).f1)) = true := decide_eq_true c49
                   clear c49
                   by_cases c50 : ((rd_T36 l0_1 x8_2).f1) < (x6_2.length : Int)
                   ·rw [if_pos c50] at H
                    have c50b0 : decide (((rd_T36 l0_1 x8_2).f1) < (x6_2.length : Int)) = true := decide_eq_true c50
                    clear c50
                    obtain ⟨y280, hy280⟩ : ∃ y_ : List Bool, y_ = (x6_2.set (((rd_T36 l0_1 x8_2).f1) : Int).toNat true) := ⟨_, rfl⟩
                    replace H : (meanderref09_round.l1 kj19 a1 t270 y280 x7_1 (wrap64 (x8_2 + 1)) l0_0 l0_1) = some r := by first | (rw [hy280]; with_reducible exact H) | (have H2_ := (Option.bind_some _ _).symm.trans H; rw [hy280]; with_reducible exact H2_) | (have H2_ := (Option.bind_some _ _).symm.trans H; with_reducible exact H2_) | with_reducible exact H | (rw [hy280]; exact H) | exact H
                    have Ny280 := Aside0.mk hy280
                    clear hy280
                    have H' := Aside0.mk H
                    clear H
                    have hnb52 := NB276_268.out
                    have hnc52 := NB268_276.out
                    have hnb53 := NB276_278.out
                    have hnc53 := NB278_276.out
                    have hcz54_0 : wc.cell? ⟨gb276, 0, none⟩ = some (.int .i64 ((rd_T36 l0_1 x8_2).f0)) := (blk_cell BK276.out 0).trans rfl
                    have hcz54_1 : wc.cell? ⟨gb276, 1, none⟩ = some (.int .i64 ((rd_T36 l0_1 x8_2).f1)) := (blk_cell BK276.out 1).trans rfl
                    have hcz54_2 : wc.cell? ⟨gb276, 2, none⟩ = some (.int .i64 ((rd_T36 l0_1 x8_2).f2)) := (blk_cell BK276.out 2).trans rfl
                    have hfz54_0 := blk_frozen BK276.out 0
                    have hfz54_1 := blk_frozen BK276.out 1
                    have hfz54_2 := blk_frozen BK276.out 2
                    have p51 : 0 ≤ (((rd_T36 l0_1 x8_2).f1) : Int) := of_decide_eq_true (by first | (with_reducible assumption) | assumption)
                    have q51 : (((rd_T36 l0_1 x8_2).f1) : Int) < ((x6_2.length : Int) : Int) := of_decide_eq_true (by first | (with_reducible assumption) | assumption)
                    obtain ⟨go51, co51, eo51, gb51, gl51, cl51, HG51⟩ := Kd.R_form HO_6.out (by omega)
                    (first | cases eo51 | (injection eo51 with ea_ en_ ec_; (first | subst ea_ | (injection ea_ with ea_; subst ea_)); subst ec_; clear en_))
                    have GB51 := Aside0.mk gb51
                    have GG51 := Aside0.mk HG51
                    clear gb51 gl51 HG51
                    obtain ⟨hx51_0, hf51_0⟩ := Kd.R_celln false HO_6.out (((rd_T36 l0_1 x8_2).f1) : Int) p51 q51
                    replace p51 := eq_true p51
                    replace q51 := eq_true q51
                    have HP55 := Kd.R_putg HO_6.out (((rd_T36 l0_1 x8_2).f1) : Int) true
                    go_wp2_with (first | ((with_reducible refine gate_store (t := 4) (p := 75) rfl ?_); refine store_event (t := 4) (p := 75) (v := ?vo_w56) (w1 := (wc.setCell ⟨go51, (((rd_T36 l0_1 x8_2).f1) : Int).toNat, none⟩ (.bool true))) ?hg ?ho ?hn ?hr ?_; (case ho => rfl); (case hg => rfl); (case hn => rfl); (case hr => first | (go_simp; done) | (go_simp; rfl)); intro w56 hw; have hg : wc.grownBy w56 (some go51) := (by rw [hw]; exact HP55.2); have hp_ : Kd.R Kd.bool 4 w56 w.heap.size (fun _ => True) (.slice (some ⟨go51, 0, none⟩) x6_2.length co51) y280 := (by rw [hw, Ny280.out]; exact HP55.1); clear HP55; have n0_ := Aside0.mk (hp_); have n1_ := Aside0.mk (blk_grown (g := gb268) (o := .cells #[.slice (some ad269) l0_0.length c0_0, .slice (some ad275) l0_1.length c0_1] 29 (0, 0)) (by (with_reducible repeat (first | refine blk_drewN ?_ _ | refine blk_drew ?_ | refine blk_alloc ?_ _)); exact BK268.out) hg (Kd.R_ne HO_6.out BK268.out (by decide))); have n2_ := Aside0.mk (blk_grown (g := gb276) (o := .cells #[.int .i64 ((rd_T36 l0_1 x8_2).f0), .int .i64 ((rd_T36 l0_1 x8_2).f1), .int .i64 ((rd_T36 l0_1 x8_2).f2)] 36 (0, 0)) (by (with_reducible repeat (first | refine blk_drewN ?_ _ | refine blk_drew ?_ | refine blk_alloc ?_ _)); exact BK276.out) hg (Kd.R_ne HO_6.out BK276.out (by decide))); have n3_ := Aside0.mk (blk_grown (g := gb278) (o := .cells #[.int .i64 ((rd_T23 l0_0 ((rd_T36 l0_1 x8_2).f1)).f0), .int .i64 ((rd_T23 l0_0 ((rd_T36 l0_1 x8_2).f1)).f1), .int .i64 ((rd_T23 l0_0 ((rd_T36 l0_1 x8_2).f1)).f2), .int .i64 ((rd_T23 l0_0 ((rd_T36 l0_1 x8_2).f1)).f3)] 23 (0, 0)) (by (with_reducible repeat (first | refine blk_drewN ?_ _ | refine blk_drew ?_ | refine blk_alloc ?_ _)); exact BK278.out) hg (Kd.R_ne HO_6.out BK278.out (by decide))); have n4_ := Aside0.mk ((by rw [hw]; exact below_set (HB.out) GB51.out : Below w.heap.size w w56)); clear HO_6; clear BK268; clear BK276; clear BK278; clear HB; have HO_6 := n0_; have BK268 := n1_; have BK276 := n2_; have BK278 := n3_; have HB := n4_; clear n0_ n1_ n2_ n3_ n4_; clear hg hw hp_))
                    go_roundg kj19
                    case measure => have := HK1.out; have := HK2.out; have := HJ19.out; omega
                    case rel => exact ⟨(y280), (wrap64 (x8_2 + 1)), (by first | rfl | (simp; done) | (simp [*]; done)), H', ⟨by have := HK1.out; have := HK2.out; have := HJ19.out; omega⟩, ⟨by (with_reducible repeat (first | apply Kd.R_alloc | apply Kd.R_drewN | apply Kd.R_drew)); exact HO_6.out⟩, ⟨by (with_reducible repeat (first | refine blk_drewN ?_ _ | refine blk_drew ?_ | refine blk_alloc ?_ _)); exact BK268.out⟩, ⟨by repeat (first | (with_reducible first | exact HB.out | apply below_alloc | apply pw_below_drewN | apply below_drew1 | refine below_set ?_ GE268.out | refine below_set ?_ GE276.out | refine below_set ?_ GE278.out) | exact HB.out)⟩⟩
                   ·rw [if_neg c50] at H
                    exact absurd H (by simp)
                  ·rw [if_neg c49] at H
                   exact absurd H (by simp)
                 ·rw [if_neg c48] at H
                  have c48b0 : (((rd_T36 l0_1 x8_2).f0) == a1) = false := beq_eq_false_iff_ne.mpr c48
                  have c48b1 : (((rd_T36 l0_1 x8_2).f0) != a1) = true := bne_iff_ne.mpr c48
                  by_cases c57 : 0 ≤ ((rd_T36 l0_1 x8_2).f0)
                  ·rw [if_pos c57] at H
                   have c57b0 : decide (0 ≤ ((rd_T36 l0_1 x8_2).f0)) = true := decide_eq_true c57
                   clear c57
                   by_cases c58 : ((rd_T36 l0_1 x8_2).f0) < (x6_2.length : Int)
                   ·rw [if_pos c58] at H
                    have c58b0 : decide (((rd_T36 l0_1 x8_2).f0) < (x6_2.length : Int)) = true := decide_eq_true c58
                    clear c58
                    obtain ⟨bq59, hbq59⟩ : ∃ b_ : Bool, b_ = (rdOf false x6_2 ((rd_T36 l0_1 x8_2).f0)) := ⟨_, rfl⟩
                    replace H : (if bq59 = true then (if 0 ≤ ((rd_T36 l0_1 x8_2).f1) then (if ((rd_T36 l0_1 x8_2).f1) < (x6_2.length : Int) then (meanderref09_round.l1 kj19 a1 t270 (x6_2.set (((rd_T36 l0_1 x8_2).f1) : Int).toNat true) x7_1 (wrap64 (x8_2 + 1)) l0_0 l0_1) else (none)) else (none)) else (meanderref09_round.l1 kj19 a1 t270 x6_2 x7_1 (wrap64 (x8_2 + 1)) l0_0 l0_1)) = some r := by rw [← hbq59] at H; exact H
                    have Nbq59 := Aside0.mk hbq59
                    clear hbq59
                    by_cases c60 : bq59 = true
                    ·subst c60
                     have H1 : (if 0 ≤ ((rd_T36 l0_1 x8_2).f1) then (if ((rd_T36 l0_1 x8_2).f1) < (x6_2.length : Int) then (meanderref09_round.l1 kj19 a1 t270 (x6_2.set (((rd_T36 l0_1 x8_2).f1) : Int).toNat true) x7_1 (wrap64 (x8_2 + 1)) l0_0 l0_1) else (none)) else (none)) = some r := by rw [if_pos rfl] at H; exact H
                     clear H
                     have H := H1
                     clear H1
                     by_cases c61 : 0 ≤ ((rd_T36 l0_1 x8_2).f1)
                     ·rw [if_pos c61] at H
                      have c61b0 : decide (0 ≤ ((rd_T36 l0_1 x8_2).f1)) = true := decide_eq_true c61
                      clear c61
                      by_cases c62 : ((rd_T36 l0_1 x8_2).f1) < (x6_2.length : Int)
                      ·rw [if_pos c62] at H
                       have c62b0 : decide (((rd_T36 l0_1 x8_2).f1) < (x6_2.length : Int)) = true := decide_eq_true c62
                       clear c62
                       obtain ⟨y282, hy282⟩ : ∃ y_ : List Bool, y_ = (x6_2.set (((rd_T36 l0_1 x8_2).f1) : Int).toNat true) := ⟨_, rfl⟩
                       replace H : (meanderref09_round.l1 kj19 a1 t270 y282 x7_1 (wrap64 (x8_2 + 1)) l0_0 l0_1) = some r := by first | (rw [hy282]; with_reducible exact H) | (have H2_ := (Option.bind_some _ _).symm.trans H; rw [hy282]; with_reducible exact H2_) | (have H2_ := (Option.bind_some _ _).symm.trans H; with_reducible exact H2_) | with_reducible exact H | (rw [hy282]; exact H) | exact H
                       have Ny282 := Aside0.mk hy282
                       clear hy282
                       have H' := Aside0.mk H
                       clear H
                       have hnb64 := NB276_268.out
                       have hnc64 := NB268_276.out
                       have hnb65 := NB276_278.out
                       have hnc65 := NB278_276.out
                       have hcz66_0 : wc.cell? ⟨gb276, 0, none⟩ = some (.int .i64 ((rd_T36 l0_1 x8_2).f0)) := (blk_cell BK276.out 0).trans rfl
                       have hcz66_1 : wc.cell? ⟨gb276, 1, none⟩ = some (.int .i64 ((rd_T36 l0_1 x8_2).f1)) := (blk_cell BK276.out 1).trans rfl
                       have hcz66_2 : wc.cell? ⟨gb276, 2, none⟩ = some (.int .i64 ((rd_T36 l0_1 x8_2).f2)) := (blk_cell BK276.out 2).trans rfl
                       have hfz66_0 := blk_frozen BK276.out 0
                       have hfz66_1 := blk_frozen BK276.out 1
                       have hfz66_2 := blk_frozen BK276.out 2
                       obtain ⟨Ao67, co67, eo67⟩ := Kd.R_slice HO_6.out
                       subst eo67
                       have p281 : 0 ≤ (((rd_T36 l0_1 x8_2).f0) : Int) := of_decide_eq_true (by first | (with_reducible assumption) | assumption)
                       have q281 : ((rd_T36 l0_1 x8_2).f0) < (x6_2.length : Int) := of_decide_eq_true (by first | (with_reducible assumption) | assumption)
                       obtain ⟨ad281, e281, hx281_0⟩ := Kd.at_bool (Kd.R_reads' HO_6.out).2.2 ((rd_T36 l0_1 x8_2).f0) p281 q281
                       (try rw [← Nbq59.out] at hx281_0)
                       cases e281
                       replace p281 := eq_true p281
                       replace q281 := eq_true q281
                       have p63 : 0 ≤ (((rd_T36 l0_1 x8_2).f1) : Int) := of_decide_eq_true (by first | (with_reducible assumption) | assumption)
                       have q63 : (((rd_T36 l0_1 x8_2).f1) : Int) < ((x6_2.length : Int) : Int) := of_decide_eq_true (by first | (with_reducible assumption) | assumption)
                       obtain ⟨go63, co63, eo63, gb63, gl63, cl63, HG63⟩ := Kd.R_form HO_6.out (by omega)
                       (first | cases eo63 | (injection eo63 with ea_ en_ ec_; (first | subst ea_ | (injection ea_ with ea_; subst ea_)); subst ec_; clear en_))
                       have GB63 := Aside0.mk gb63
                       have GG63 := Aside0.mk HG63
                       clear gb63 gl63 HG63
                       (first | simp only [add_plain] at hx281_0 | skip)
                       obtain ⟨hx63_0, hf63_0⟩ := Kd.R_celln false HO_6.out (((rd_T36 l0_1 x8_2).f1) : Int) p63 q63
                       replace p63 := eq_true p63
                       replace q63 := eq_true q63
                       have HP68 := Kd.R_putg HO_6.out (((rd_T36 l0_1 x8_2).f1) : Int) true
                       go_wp2_with (first | ((with_reducible refine gate_store (t := 4) (p := 75) rfl ?_); refine store_event (t := 4) (p := 75) (v := ?vo_w69) (w1 := (wc.setCell ⟨go63, (((rd_T36 l0_1 x8_2).f1) : Int).toNat, none⟩ (.bool true))) ?hg ?ho ?hn ?hr ?_; (case ho => rfl); (case hg => rfl); (case hn => rfl); (case hr => first | (go_simp; done) | (go_simp; rfl)); intro w69 hw; have hg : wc.grownBy w69 (some go63) := (by rw [hw]; exact HP68.2); have hp_ : Kd.R Kd.bool 4 w69 w.heap.size (fun _ => True) (.slice (some ⟨go63, 0, none⟩) x6_2.length co67) y282 := (by rw [hw, Ny282.out]; exact HP68.1); clear HP68; have n0_ := Aside0.mk (hp_); have n1_ := Aside0.mk (blk_grown (g := gb268) (o := .cells #[.slice (some ad269) l0_0.length c0_0, .slice (some ad275) l0_1.length c0_1] 29 (0, 0)) (by (with_reducible repeat (first | refine blk_drewN ?_ _ | refine blk_drew ?_ | refine blk_alloc ?_ _)); exact BK268.out) hg (Kd.R_ne HO_6.out BK268.out (by decide))); have n2_ := Aside0.mk (blk_grown (g := gb276) (o := .cells #[.int .i64 ((rd_T36 l0_1 x8_2).f0), .int .i64 ((rd_T36 l0_1 x8_2).f1), .int .i64 ((rd_T36 l0_1 x8_2).f2)] 36 (0, 0)) (by (with_reducible repeat (first | refine blk_drewN ?_ _ | refine blk_drew ?_ | refine blk_alloc ?_ _)); exact BK276.out) hg (Kd.R_ne HO_6.out BK276.out (by decide))); have n3_ := Aside0.mk (blk_grown (g := gb278) (o := .cells #[.int .i64 ((rd_T23 l0_0 ((rd_T36 l0_1 x8_2).f1)).f0), .int .i64 ((rd_T23 l0_0 ((rd_T36 l0_1 x8_2).f1)).f1), .int .i64 ((rd_T23 l0_0 ((rd_T36 l0_1 x8_2).f1)).f2), .int .i64 ((rd_T23 l0_0 ((rd_T36 l0_1 x8_2).f1)).f3)] 23 (0, 0)) (by (with_reducible repeat (first | refine blk_drewN ?_ _ | refine blk_drew ?_ | refine blk_alloc ?_ _)); exact BK278.out) hg (Kd.R_ne HO_6.out BK278.out (by decide))); have n4_ := Aside0.mk ((by rw [hw]; exact below_set (HB.out) GB63.out : Below w.heap.size w w69)); clear HO_6; clear BK268; clear BK276; clear BK278; clear HB; have HO_6 := n0_; have BK268 := n1_; have BK276 := n2_; have BK278 := n3_; have HB := n4_; clear n0_ n1_ n2_ n3_ n4_; clear hg hw hp_))
                       go_roundg kj19
                       case measure => have := HK1.out; have := HK2.out; have := HJ19.out; omega
                       case rel => exact ⟨(y282), (wrap64 (x8_2 + 1)), (by first | rfl | (simp; done) | (simp [*]; done)), H', ⟨by have := HK1.out; have := HK2.out; have := HJ19.out; omega⟩, ⟨by (with_reducible repeat (first | apply Kd.R_alloc | apply Kd.R_drewN | apply Kd.R_drew)); exact HO_6.out⟩, ⟨by (with_reducible repeat (first | refine blk_drewN ?_ _ | refine blk_drew ?_ | refine blk_alloc ?_ _)); exact BK268.out⟩, ⟨by repeat (first | (with_reducible first | exact HB.out | apply below_alloc | apply pw_below_drewN | apply below_drew1 | refine below_set ?_ GE268.out | refine below_set ?_ GE276.out | refine below_set ?_ GE278.out) | exact HB.out)⟩⟩
                      ·rw [if_neg c62] at H
                       exact absurd H (by simp)
                     ·rw [if_neg c61] at H
                      exact absurd H (by simp)
                    ·replace c60 := Bool.eq_false_iff.mpr c60
                     subst c60
                     have H1 : (meanderref09_round.l1 kj19 a1 t270 x6_2 x7_1 (wrap64 (x8_2 + 1)) l0_0 l0_1) = some r := by rw [if_neg (show ¬ (false = true) by decide)] at H; exact H
                     clear H
                     have H := H1
                     clear H1
                     have H' := Aside0.mk H
                     clear H
                     have hnb70 := NB276_268.out
                     have hnc70 := NB268_276.out
                     have hnb71 := NB276_278.out
                     have hnc71 := NB278_276.out
                     have hcz72_0 : wc.cell? ⟨gb276, 0, none⟩ = some (.int .i64 ((rd_T36 l0_1 x8_2).f0)) := (blk_cell BK276.out 0).trans rfl
                     have hcz72_1 : wc.cell? ⟨gb276, 1, none⟩ = some (.int .i64 ((rd_T36 l0_1 x8_2).f1)) := (blk_cell BK276.out 1).trans rfl
                     have hcz72_2 : wc.cell? ⟨gb276, 2, none⟩ = some (.int .i64 ((rd_T36 l0_1 x8_2).f2)) := (blk_cell BK276.out 2).trans rfl
                     have hfz72_0 := blk_frozen BK276.out 0
                     have hfz72_1 := blk_frozen BK276.out 1
                     have hfz72_2 := blk_frozen BK276.out 2
                     obtain ⟨Ao73, co73, eo73⟩ := Kd.R_slice HO_6.out
                     subst eo73
                     have p281 : 0 ≤ (((rd_T36 l0_1 x8_2).f0) : Int) := of_decide_eq_true (by first | (with_reducible assumption) | assumption)
                     have q281 : ((rd_T36 l0_1 x8_2).f0) < (x6_2.length : Int) := of_decide_eq_true (by first | (with_reducible assumption) | assumption)
                     obtain ⟨ad281, e281, hx281_0⟩ := Kd.at_bool (Kd.R_reads' HO_6.out).2.2 ((rd_T36 l0_1 x8_2).f0) p281 q281
                     (try rw [← Nbq59.out] at hx281_0)
                     cases e281
                     replace p281 := eq_true p281
                     replace q281 := eq_true q281
                     go_wp2
                     go_roundg kj19
                     case measure => have := HK1.out; have := HK2.out; have := HJ19.out; omega
                     case rel => exact ⟨(x6_2), (wrap64 (x8_2 + 1)), (by first | rfl | (simp; done) | (simp [*]; done)), H', ⟨by have := HK1.out; have := HK2.out; have := HJ19.out; omega⟩, ⟨by (with_reducible repeat (first | apply Kd.R_alloc | apply Kd.R_drewN | apply Kd.R_drew)); exact HO_6.out⟩, ⟨by (with_reducible repeat (first | refine blk_drewN ?_ _ | refine blk_drew ?_ | refine blk_alloc ?_ _)); exact BK268.out⟩, ⟨by repeat (first | (with_reducible first | exact HB.out | apply below_alloc | apply pw_below_drewN | apply below_drew1 | refine below_set ?_ GE268.out | refine below_set ?_ GE276.out | refine below_set ?_ GE278.out) | exact HB.out)⟩⟩
                   ·rw [if_neg c58] at H
                    exact absurd H (by simp)
                  ·rw [if_neg c57] at H
                   exact absurd H (by simp)
             ·rw [if_neg c19] at H
              exact absurd H (by simp)
            ·rw [if_neg c18] at H
             exact absurd H (by simp)
           ·rw [if_neg c17] at H
            exact absurd H (by simp)
          ·rw [if_neg c16] at H
           have c16b0 : decide (x8_2 < (l0_1.length : Int)) = false := decide_eq_false c16
           clear c16
           have H' := Aside0.mk H
           clear H
           have hcz74_0 : wr.cell? ⟨gb268, 0, none⟩ = some (.slice (some ad269) l0_0.length c0_0) := (blk_cell BK268.out 0).trans rfl
           have hcz74_1 : wr.cell? ⟨gb268, 1, none⟩ = some (.slice A0_1 l0_1.length c0_1) := (blk_cell BK268.out 1).trans rfl
           have hfz74_0 := blk_frozen BK268.out 0
           have hfz74_1 := blk_frozen BK268.out 1
           go_wp2
           go_roundg k2
           case measure => have := HK1.out; have := HK2.out; omega
           case rel => exact ⟨(x6_2), (wrap64 (x7_1 + 1)), (by first | rfl | (simp; done) | (simp [*]; done)), H', ⟨by have := HK1.out; have := HK2.out; omega⟩, ⟨by (with_reducible repeat (first | apply Kd.R_alloc | apply Kd.R_drewN | apply Kd.R_drew)); exact HO_6.out⟩, ⟨by (with_reducible repeat (first | refine blk_drewN ?_ _ | refine blk_drew ?_ | refine blk_alloc ?_ _)); exact BK268.out⟩, ⟨by repeat (first | (with_reducible first | exact HB.out | apply below_alloc | apply pw_below_drewN | apply below_drew1 | refine below_set ?_ GE268.out) | exact HB.out)⟩⟩
       ·rw [if_neg c14] at H
        have c14b0 : decide (x7_1 < (l0_0.length : Int)) = false := decide_eq_false c14
        clear c14
        by_cases c75 : 0 ≤ a1
        ·rw [if_pos c75] at H
         have c75b0 : decide (0 ≤ a1) = true := decide_eq_true c75
         clear c75
         by_cases c76 : a1 < (x6_1.length : Int)
         ·rw [if_pos c76] at H
          have c76b0 : decide (a1 < (x6_1.length : Int)) = true := decide_eq_true c76
          clear c76
          obtain rfl := Option.some.inj H
          have hcz77_0 : wr.cell? ⟨gb268, 0, none⟩ = some (.slice (some ad269) l0_0.length c0_0) := (blk_cell BK268.out 0).trans rfl
          have hcz77_1 : wr.cell? ⟨gb268, 1, none⟩ = some (.slice A0_1 l0_1.length c0_1) := (blk_cell BK268.out 1).trans rfl
          have hfz77_0 := blk_frozen BK268.out 0
          have hfz77_1 := blk_frozen BK268.out 1
          obtain ⟨Ao78, co78, eo78⟩ := Kd.R_slice HO_6.out
          subst eo78
          have p274 : 0 ≤ (a1 : Int) := of_decide_eq_true (by first | (with_reducible assumption) | assumption)
          have q274 : a1 < (x6_1.length : Int) := of_decide_eq_true (by first | (with_reducible assumption) | assumption)
          obtain ⟨ad274, e274, hx274_0⟩ := Kd.at_bool (Kd.R_reads' HO_6.out).2.2 a1 p274 q274
          cases e274
          replace p274 := eq_true p274
          replace q274 := eq_true q274
          go_wp2
          go_ret
          exact ⟨by first | rfl | (simp [errW_none, errW_some] <;> rfl) | (simp [*, errW_none, errW_some] <;> rfl), by repeat (first | (with_reducible first | exact HB.out | apply below_alloc | apply pw_below_drewN | apply below_drew1 | refine below_set ?_ GE268.out) | exact HB.out)⟩
         ·rw [if_neg c76] at H
          exact absurd H (by simp)
        ·rw [if_neg c75] at H
         exact absurd H (by simp)
    ·rw [if_neg c7] at H
     exact absurd H (by simp)
   ·rw [if_neg c6] at H
    exact absurd H (by simp)
  ·rw [if_neg c4] at H
   exact absurd H (by simp)
 ·rw [if_neg c3] at H
  exact absurd H (by simp)

end Go.Proofs.Ytjlnjlnecipllaa.PAll
