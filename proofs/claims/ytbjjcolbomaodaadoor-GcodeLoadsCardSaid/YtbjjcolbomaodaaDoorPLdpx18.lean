-- Laid by hprint.py of this repo: the kit's printer, and contracts by hand beside it. Not trusted: Lean checks it.
import Derived.Test.YtbjjcolbomaodaaDoorWZ
import Derived.Test.YtbjjcolbomaodaaDoorPLdpx0
import Derived.Test.YtbjjcolbomaodaaDoorPLdpx14
namespace Go.Proofs.YtbjjcolbomaodaaDoor.PLdp
open Go.RowKit Go.Proofs.YtbjjcolbomaodaaDoorW.PrintWords Go.Proofs.YtbjjcolbomaodaaDoorW.PrintLast Go.Proofs.YtbjjcolbomaodaaDoorW.PrintMore
attribute [local go_sem] max2_int min2_int max_two min_two max_three min_three max_four min_four   -- for this text's walks alone
set_option linter.unusedVariables false
set_option linter.unusedSimpArgs false

/-! ### meanderref09_low: function 48 -/
def meanderref09_low.f (a0_0 : Int) (a0_1 : Int) (a0_2 : Int) (a0_3 : Int) : Option (Int) := (meanderref08_InDepth.f a0_0 a0_1 a0_2 a0_3).bind fun t258 => (some (mn t258 a0_3))
set_option maxHeartbeats 8000000 in
set_option maxRecDepth 100000 in
theorem meanderref09_low.calls (a0_0 : Int) (a0_1 : Int) (a0_2 : Int) (a0_3 : Int) (r : Int) (w : World) (h : meanderref09_low.f a0_0 a0_1 a0_2 a0_3 = some r) :
  Calls Tryd.prog 48 #[.agg #[.int .i64 a0_0, .int .i64 a0_1, .int .i64 a0_2, .int .i64 a0_3]] w fun e w' => e = .returned (.int .i64 r) ∧ Below w.heap.size w w' := by
 have hu40 := Tryd.underlying40
 have HB := ZM (Below.refl w.heap.size w)
 have H : ((meanderref08_InDepth.f a0_0 a0_1 a0_2 a0_3).bind fun t258 => (some (mn t258 a0_3))) = some r := h
 clear h
 replace H := Option.bind_eq_some_iff.mp H
 obtain ⟨t258, A20, H⟩ := H
 replace H : (some (mn t258 a0_3)) = some r := H
 have A2 := ZM A20
 clear A20
 obtain ⟨ji3, hji3⟩ : ∃ j_ : Int, (mn t258 a0_3) = j_ := ⟨_, rfl⟩
 replace H : (some ji3) = some r := by first | (rw [hji3] at H; exact H) | (simp only [hji3] at H ⊢; exact H)
 (try rw [hji3] at A2)
 have hji3_ : (if a0_3 < t258 then a0_3 else t258) = ji3 := hji3
 obtain rfl := Option.some.inj H
 go_enter Tryd.func48, Tryd.ntmps48
 try go_wp2_with (first | ((with_reducible refine gate_dst (N := 1) rfl ?_); refine box_event ?hg (N := 1) ?hd (cs := #[.int .i64 a0_0, .int .i64 a0_1, .int .i64 a0_2, .int .i64 a0_3]) (t := 40) ?hr ?_; (case hd => rfl); (case hg => rfl); (case hr => first | (go_simp; done) | (go_simp; rfl)); intro gb257 hg w4 hbox hb; have n0_ := ZM (ZW (ZBB HB.out) hb); have n1_ := ZM (hbox); have n2_ := ZM ((by rw [hg]; exact (ZV (ZBB HB.out)) : w.heap.size ≤ gb257)); have n3_ := ZM ((by rw [hg]; exact (ZV (ZBB HB.out)) : w.heap.size ≤ gb257)); clear HB; have HB := n0_; have BK257 := n1_; have GW257 := n2_; have GE257 := n3_; clear n0_ n1_ n2_ n3_; clear hb hbox hg))
 have n0_ := ZM (ZS BK257.out)
 have n1_ := ZM (ZP HB.out)
 clear BK257
 clear HB
 have BK257 := n0_
 have HB := n1_
 clear n0_ n1_
 refine start_ (n := 6) (S := fun w' => w'.cell? ⟨gb257, 0, none⟩ = some (.int .i64 a0_0) ∧ w'.cell? ⟨gb257, 1, none⟩ = some (.int .i64 a0_1) ∧ w'.cell? ⟨gb257, 2, none⟩ = some (.int .i64 a0_2) ∧ w'.cell? ⟨gb257, 3, none⟩ = some (.int .i64 a0_3)) (ds := []) #[false, false, false, false, false, false] (by kernel_rfl) rfl rfl ⟨(ZG BK257.out 0).trans rfl, (ZG BK257.out 1).trans rfl, (ZG BK257.out 2).trans rfl, (ZG BK257.out 3).trans rfl⟩ (fun hHeld => ?_)
 generalize w4.drew = w5 at BK257 HB hHeld ⊢
 refine pure_ (i := 2) (N := some 5) (v := ?_) (a' := ?_) (ZB 6 4) rfl rfl (by kernel_rfl) (fun _ _ _ h => h) (Or.inl ⟨by rfl, ?_⟩) ?_ ?_
 rotate_left
 ·intro w'; go_simp; with_reducible rfl
 rotate_left
 ·simp only [Act.put, ZI, ZJ, ZK, i64_w, i32_w]; rfl
 refine take_ (i := 0) (N := some 3) (v := ?_) (a' := ?_) (ZB 6 5) rfl rfl (by kernel_rfl) (fun _ _ _ h => h) (Or.inl ⟨by rfl, ?_⟩) hHeld ?_ ?_
 rotate_left
 ·rintro w' ⟨s0, s1, s2, s3⟩
  go_simp
  with_reducible rfl
 rotate_left
 ·simp only [Act.put, ZI, ZJ, ZK, i64_w, i32_w]; rfl
 refine take_ (i := 3) (N := some 6) (v := ?_) (a' := ?_) (ZB 6 13) rfl rfl (by kernel_rfl) (fun _ _ _ h => h) (Or.inl ⟨by rfl, ?_⟩) hHeld ?_ ?_
 rotate_left
 ·rintro w' ⟨s0, s1, s2, s3⟩
  go_simp
  with_reducible rfl
 rotate_left
 ·simp only [Act.put, ZI, ZJ, ZK, i64_w, i32_w]; rfl
 refine one_ (i := 1) (N := some 4) (ZB 6 15) rfl rfl (by kernel_rfl) (by decide) (fun K hK => ?_)
 refine goes_ Tryd.func45 (by kernel_rfl) rfl #[.agg #[.int .i64 a0_0, .int .i64 a0_1, .int .i64 a0_2, .int .i64 a0_3]] (by rfl) rfl rfl ZH ?_
 with_reducible refine (meanderref08_InDepth.calls a0_0 a0_1 a0_2 a0_3 t258 _ A2.out).mono ?_
 rintro e w6 ⟨rfl, hb⟩
 refine ⟨_, rfl, ?_⟩
 have n0_ := ZM (blk_below (g := gb257) (o := .cells #[.int .i64 a0_0, .int .i64 a0_1, .int .i64 a0_2, .int .i64 a0_3] 40 (0, 0)) (ZBK BK257.out) hb)
 have n1_ := ZM (ZW (ZBB HB.out) hb)
 clear BK257
 clear HB
 have BK257 := n0_
 have HB := n1_
 clear n0_ n1_
 (try clear hb)
 (try clear hb2)
 (try clear hk)
 (try clear hi)
 refine hK.out _ _ ⟨(ZG BK257.out 0).trans rfl, (ZG BK257.out 1).trans rfl, (ZG BK257.out 2).trans rfl, (ZG BK257.out 3).trans rfl⟩ (fun hHeld => ?_)
 clear hK K
 refine norm_ (a' := ?_) ?_ ?_
 rotate_left
 ·show Act.put _ (some 4) _ = _
  simp only [Act.put, ZI, ZJ, ZK, i64_w, i32_w]
  rfl
 refine pure_ (i := 4) (N := some 7) (v := ?_) (a' := ?_) (ZB 6 31) rfl rfl (by kernel_rfl) (fun _ _ _ h => h) (Or.inl ⟨by rfl, ?_⟩) ?_ ?_
 rotate_left
 ·intro w'; go_simp; with_reducible rfl
 rotate_left
 ·simp only [Act.put, ZI, ZJ, ZK, i64_w, i32_w]; rfl
 refine pure_ (i := 5) (N := some 2) (v := ?_) (a' := ?_) (ZB 6 63) rfl rfl (by kernel_rfl) (fun _ _ _ h => h) (Or.inl ⟨by rfl, ?_⟩) ?_ ?_
 rotate_left
 ·intro w'; go_simp; with_reducible rfl
 rotate_left
 ·simp only [Act.put, ZI, ZJ, ZK, i64_w, i32_w]; rfl
 refine done_ (by kernel_rfl) ?_
 try go_wp2
 go_ret
 exact ⟨by first | rfl | (simp [errW_none, errW_some] <;> rfl) | (simp only [← hji3]; first | rfl | (simp [errW_none, errW_some] <;> rfl)) | (simp [*, errW_none, errW_some] <;> rfl), ZBB HB.out⟩

/-! ### meanderref09_round: function 30 -/
mutual
def meanderref09_round.l0 : Nat → Int → Int → List Bool → Int → List (S40) → List (S42) → Option (Bool)
 | 0, _, _, _, _, _, _ => none
 | k + 1, x1, x5, x6, x7, x260000, x260001 => if x7 < (x260000.length : Int) then (meanderref09_round.l1 k x1 x5 x6 x7 0 x260000 x260001) else (if 0 ≤ x1 then (if x1 < (x6.length : Int) then (some (rdOf false x6 x1)) else (none)) else (none))
def meanderref09_round.l1 : Nat → Int → Int → List Bool → Int → Int → List (S40) → List (S42) → Option (Bool)
 | 0, _, _, _, _, _, _, _ => none
 | k + 1, x1, x5, x6, x7, x8, x260000, x260001 => if x8 < (x260001.length : Int) then (if 0 ≤ x8 then (if 0 ≤ ((rd_T42 x260001 x8).f1) then (if ((rd_T42 x260001 x8).f1) < (x260000.length : Int) then ((meanderref09_low.f ((rd_T40 x260000 ((rd_T42 x260001 x8).f1)).f0) ((rd_T40 x260000 ((rd_T42 x260001 x8).f1)).f1) ((rd_T40 x260000 ((rd_T42 x260001 x8).f1)).f2) ((rd_T40 x260000 ((rd_T42 x260001 x8).f1)).f3)).bind fun t270 => (if t270 < x5 then (meanderref09_round.j2 k x1 x5 x6 x7 x8 true x260000 x260001 ((rd_T42 x260001 x8).f0) ((rd_T42 x260001 x8).f1) ((rd_T42 x260001 x8).f2)) else (if ((rd_T40 x260000 ((rd_T42 x260001 x8).f1)).f0) = 10 then (meanderref09_round.j2 k x1 x5 x6 x7 x8 (((rd_T40 x260000 ((rd_T42 x260001 x8).f1)).f3) == x5) x260000 x260001 ((rd_T42 x260001 x8).f0) ((rd_T42 x260001 x8).f1) ((rd_T42 x260001 x8).f2)) else (meanderref09_round.j2 k x1 x5 x6 x7 x8 false x260000 x260001 ((rd_T42 x260001 x8).f0) ((rd_T42 x260001 x8).f1) ((rd_T42 x260001 x8).f2))))) else (none)) else (none)) else (none)) else (meanderref09_round.l0 k x1 x5 x6 (wrap64 (x7 + 1)) x260000 x260001)
def meanderref09_round.j2 : Nat → Int → Int → List Bool → Int → Int → Bool → List (S40) → List (S42) → Int → Int → Int → Option (Bool)
 | 0, _, _, _, _, _, _, _, _, _, _, _ => none
 | k + 1, x1, x5, x6, x7, x8, x60, x260000, x260001, x268000, x268001, x268002 => if x60 = true then (meanderref09_round.l1 k x1 x5 x6 x7 (wrap64 (x8 + 1)) x260000 x260001) else (if x268000 = x1 then (if 0 ≤ x268001 then (if x268001 < (x6.length : Int) then (meanderref09_round.l1 k x1 x5 (x6.set (x268001 : Int).toNat true) x7 (wrap64 (x8 + 1)) x260000 x260001) else (none)) else (none)) else (if 0 ≤ x268000 then (if x268000 < (x6.length : Int) then (if rdOf false x6 x268000 = true then (if 0 ≤ x268001 then (if x268001 < (x6.length : Int) then (meanderref09_round.l1 k x1 x5 (x6.set (x268001 : Int).toNat true) x7 (wrap64 (x8 + 1)) x260000 x260001) else (none)) else (none)) else (meanderref09_round.l1 k x1 x5 x6 x7 (wrap64 (x8 + 1)) x260000 x260001)) else (none)) else (none)))
end
def meanderref09_round.f (k : Nat) (l0_0 : List (S40)) (l0_1 : List (S42)) (a1 : Int) : Option (Bool) := if 0 ≤ a1 then (if a1 < (l0_0.length : Int) then ((meanderref09_low.f ((rd_T40 l0_0 a1).f0) ((rd_T40 l0_0 a1).f1) ((rd_T40 l0_0 a1).f2) ((rd_T40 l0_0 a1).f3)).bind fun t261 => (if 0 ≤ (l0_0.length : Int) then (if ((l0_0.length : Int) : Int).toNat ≤ 281474976710656 then (meanderref09_round.l0 k a1 t261 (List.replicate ((l0_0.length : Int) : Int).toNat false) 0 l0_0 l0_1) else (none)) else (none))) else (none)) else (none)
theorem meanderref09_round.mono_l : ∀ k, (∀ y0 y1 y2 y3 y4 y5, LeO (meanderref09_round.l0 k y0 y1 y2 y3 y4 y5) (meanderref09_round.l0 (k + 1) y0 y1 y2 y3 y4 y5)) ∧ (∀ y0 y1 y2 y3 y4 y5 y6, LeO (meanderref09_round.l1 k y0 y1 y2 y3 y4 y5 y6) (meanderref09_round.l1 (k + 1) y0 y1 y2 y3 y4 y5 y6)) ∧ (∀ y0 y1 y2 y3 y4 y5 y6 y7 y8 y9 y10, LeO (meanderref09_round.j2 k y0 y1 y2 y3 y4 y5 y6 y7 y8 y9 y10) (meanderref09_round.j2 (k + 1) y0 y1 y2 y3 y4 y5 y6 y7 y8 y9 y10))
 | 0 => ⟨fun _ _ _ _ _ _ r h => by simp [meanderref09_round.l0] at h, fun _ _ _ _ _ _ _ r h => by simp [meanderref09_round.l1] at h, fun _ _ _ _ _ _ _ _ _ _ _ r h => by simp [meanderref09_round.j2] at h⟩
 | k + 1 => by
  obtain ⟨ih0, ih1, ih2⟩ := meanderref09_round.mono_l k
  refine ⟨?_, ?_, ?_⟩
  ·intro y0 y1 y2 y3 y4 y5
   unfold meanderref09_round.l0
   repeat' first
   | (with_reducible exact ih0 _ _ _ _ _ _)
   | (with_reducible exact ih1 _ _ _ _ _ _ _)
   | (with_reducible exact ih2 _ _ _ _ _ _ _ _ _ _ _)
   | (with_reducible exact LeO.refl _)
   | (with_reducible exact LeO.none _)
   | (with_reducible refine LeO.ite ?_ ?_)
   | (with_reducible refine LeO.bind ?_ (fun _ => ?_))
   | exact ih0 _ _ _ _ _ _
   | exact ih1 _ _ _ _ _ _ _
   | exact ih2 _ _ _ _ _ _ _ _ _ _ _
   | exact LeO.none _
   | refine LeO.ite ?_ ?_
   | refine LeO.bind ?_ (fun _ => ?_)
  ·intro y0 y1 y2 y3 y4 y5 y6
   unfold meanderref09_round.l1
   repeat' first
   | (with_reducible exact ih0 _ _ _ _ _ _)
   | (with_reducible exact ih1 _ _ _ _ _ _ _)
   | (with_reducible exact ih2 _ _ _ _ _ _ _ _ _ _ _)
   | (with_reducible exact LeO.refl _)
   | (with_reducible exact LeO.none _)
   | (with_reducible refine LeO.ite ?_ ?_)
   | (with_reducible refine LeO.bind ?_ (fun _ => ?_))
   | exact ih0 _ _ _ _ _ _
   | exact ih1 _ _ _ _ _ _ _
   | exact ih2 _ _ _ _ _ _ _ _ _ _ _
   | exact LeO.none _
   | refine LeO.ite ?_ ?_
   | refine LeO.bind ?_ (fun _ => ?_)
  ·intro y0 y1 y2 y3 y4 y5 y6 y7 y8 y9 y10
   unfold meanderref09_round.j2
   repeat' first
   | (with_reducible exact ih0 _ _ _ _ _ _)
   | (with_reducible exact ih1 _ _ _ _ _ _ _)
   | (with_reducible exact ih2 _ _ _ _ _ _ _ _ _ _ _)
   | (with_reducible exact LeO.refl _)
   | (with_reducible exact LeO.none _)
   | (with_reducible refine LeO.ite ?_ ?_)
   | (with_reducible refine LeO.bind ?_ (fun _ => ?_))
   | exact ih0 _ _ _ _ _ _
   | exact ih1 _ _ _ _ _ _ _
   | exact ih2 _ _ _ _ _ _ _ _ _ _ _
   | exact LeO.none _
   | refine LeO.ite ?_ ?_
   | refine LeO.bind ?_ (fun _ => ?_)
theorem meanderref09_round.mono : ∀ a0 a1 a2 k, LeO (meanderref09_round.f k a0 a1 a2) (meanderref09_round.f (k + 1) a0 a1 a2) := by
 intro a0 a1 a2 k
 obtain ⟨ih0, ih1, ih2⟩ := meanderref09_round.mono_l k
 unfold meanderref09_round.f
 repeat' first
   | (with_reducible exact ih0 _ _ _ _ _ _)
   | (with_reducible exact ih1 _ _ _ _ _ _ _)
   | (with_reducible exact ih2 _ _ _ _ _ _ _ _ _ _ _)
   | (with_reducible exact LeO.refl _)
   | (with_reducible exact LeO.none _)
   | (with_reducible refine LeO.ite ?_ ?_)
   | (with_reducible refine LeO.bind ?_ (fun _ => ?_))
   | exact ih0 _ _ _ _ _ _
   | exact ih1 _ _ _ _ _ _ _
   | exact ih2 _ _ _ _ _ _ _ _ _ _ _
   | exact LeO.none _
   | refine LeO.ite ?_ ?_
   | refine LeO.bind ?_ (fun _ => ?_)
set_option maxHeartbeats 8000000 in
set_option maxRecDepth 100000 in
theorem meanderref09_round.calls (k : Nat) (A0_0 : Option Addr) (c0_0 : Nat) (l0_0 : List (S40)) (A0_1 : Option Addr) (c0_1 : Nat) (l0_1 : List (S42)) (a1 : Int) (r : Bool) (w : World) (hr0_0 : Kd.C k40 w A0_0 l0_0.length l0_0) (hc0_0 : l0_0.length ≤ c0_0) (hr0_1 : Kd.C k42 w A0_1 l0_1.length l0_1) (hc0_1 : l0_1.length ≤ c0_1) (h : meanderref09_round.f k l0_0 l0_1 a1 = some r) :
  Calls Tryd.prog 30 #[.agg #[.slice A0_0 l0_0.length c0_0, .slice A0_1 l0_1.length c0_1], .int .i64 a1] w fun e w' => e = .returned (.bool r) ∧ Below w.heap.size w w' := by
 have hu27 := Tryd.underlying27
 have hu40 := Tryd.underlying40
 have hu42 := Tryd.underlying42
 have HR0_0 := ZM hr0_0
 have HC0_0 := ZM hc0_0
 clear hr0_0 hc0_0
 have HR0_1 := ZM hr0_1
 have HC0_1 := ZM hc0_1
 clear hr0_1 hc0_1
 have HB := ZM (Below.refl w.heap.size w)
 have H : (if 0 ≤ a1 then (if a1 < (l0_0.length : Int) then ((meanderref09_low.f ((rd_T40 l0_0 a1).f0) ((rd_T40 l0_0 a1).f1) ((rd_T40 l0_0 a1).f2) ((rd_T40 l0_0 a1).f3)).bind fun t261 => (if 0 ≤ (l0_0.length : Int) then (if ((l0_0.length : Int) : Int).toNat ≤ 281474976710656 then (meanderref09_round.l0 k a1 t261 (List.replicate ((l0_0.length : Int) : Int).toNat false) 0 l0_0 l0_1) else (none)) else (none))) else (none)) else (none)) = some r := h
 clear h
 by_cases c3 : 0 ≤ a1
 case neg =>
  rw [if_neg c3] at H
  exact absurd H (by simp)

 rw [if_pos c3] at H
 have c3b0 : decide (0 ≤ a1) = true := decide_eq_true c3
 clear c3
 by_cases c4 : a1 < (l0_0.length : Int)
 case neg =>
  rw [if_neg c4] at H
  exact absurd H (by simp)
 rw [if_pos c4] at H
 have c4b0 : decide (a1 < (l0_0.length : Int)) = true := decide_eq_true c4
 clear c4
 replace H := Option.bind_eq_some_iff.mp H
 obtain ⟨t261, A50, H⟩ := H
 replace H : (if 0 ≤ (l0_0.length : Int) then (if ((l0_0.length : Int) : Int).toNat ≤ 281474976710656 then (meanderref09_round.l0 k a1 t261 (List.replicate ((l0_0.length : Int) : Int).toNat false) 0 l0_0 l0_1) else (none)) else (none)) = some r := H
 have A5 := ZM A50
 clear A50
 by_cases c6 : 0 ≤ (l0_0.length : Int)
 case neg =>
  rw [if_neg c6] at H
  exact absurd H (by simp)
 rw [if_pos c6] at H
 have c6b0 := eq_true c6
 have c6b1 : decide (0 ≤ (l0_0.length : Int)) = true := decide_eq_true c6
 clear c6
 by_cases c7 : ((l0_0.length : Int) : Int).toNat ≤ 281474976710656
 case neg =>
  rw [if_neg c7] at H
  exact absurd H (by simp)
 rw [if_pos c7] at H
 have c7b0 := eq_true c7
 have c7b1 : decide (((l0_0.length : Int) : Int).toNat ≤ 281474976710656) = true := decide_eq_true c7
 clear c7
 obtain ⟨y262, hy262⟩ : ∃ y_ : List Bool, y_ = (List.replicate ((l0_0.length : Int) : Int).toNat false) := ⟨_, rfl⟩
 replace H : (meanderref09_round.l0 k a1 t261 y262 0 l0_0 l0_1) = some r := by first | (rw [hy262]; with_reducible exact H) | (have H2_ := (Option.bind_some _ _).symm.trans H; rw [hy262]; with_reducible exact H2_) | (have H2_ := (Option.bind_some _ _).symm.trans H; with_reducible exact H2_) | with_reducible exact H | (rw [hy262]; exact H) | exact H
 have Ny262 := ZM hy262
 clear hy262
 have H' := ZM H
 clear H
 go_enter Tryd.func30, Tryd.ntmps30
 go_wp2_with (first | ((with_reducible refine gate_dst (N := 2) rfl ?_); refine box_event ?hg (N := 2) ?hd (cs := #[.slice A0_0 l0_0.length c0_0, .slice A0_1 l0_1.length c0_1]) (t := 27) ?hr ?_; (case hd => rfl); (case hg => rfl); (case hr => first | (go_simp; done) | (go_simp; rfl)); intro gb259 hg w8 hbox hb; have n0_ := ZM (ZW (ZBB HB.out) hb); have n1_ := ZM (hbox); have n2_ := ZM ((by rw [hg]; exact (ZV (ZBB HB.out)) : w.heap.size ≤ gb259)); have n3_ := ZM ((by rw [hg]; exact (ZV (ZBB HB.out)) : w.heap.size ≤ gb259)); clear HB; have HB := n0_; have BK259 := n1_; have GW259 := n2_; have GE259 := n3_; clear n0_ n1_ n2_ n3_; clear hb hbox hg; have hcz9_0 : w8.cell? ⟨gb259, 0, none⟩ = some (.slice A0_0 l0_0.length c0_0) := (ZG BK259.out 0).trans rfl; have hcz9_1 : w8.cell? ⟨gb259, 1, none⟩ = some (.slice A0_1 l0_1.length c0_1) := (ZG BK259.out 1).trans rfl; have hfz9_0 := ZF BK259.out 0; have hfz9_1 := ZF BK259.out 1; have p260 : 0 ≤ (a1 : Int) := ZOD; have q260 : a1 < (l0_0.length : Int) := ZOD; obtain ⟨ad260, e260, hx260_0, hx260_1, hx260_2, hx260_3⟩ := at_T40 HR0_0.out a1 p260 q260; cases e260; replace hx260_0 := (HB.out.cell (ZC w _ hx260_0)).trans hx260_0; replace hx260_1 := (HB.out.cell (ZC w _ hx260_1)).trans hx260_1; replace hx260_2 := (HB.out.cell (ZC w _ hx260_2)).trans hx260_2; replace hx260_3 := (HB.out.cell (ZC w _ hx260_3)).trans hx260_3; replace p260 := eq_true p260; replace q260 := eq_true q260) | ((with_reducible refine gate_callee (f := 48) rfl ?_); refine goesL_ (some 16) rfl rfl Tryd.func48 (by kernel_rfl) rfl #[.agg #[.int .i64 ((rd_T40 l0_0 a1).f0), .int .i64 ((rd_T40 l0_0 a1).f1), .int .i64 ((rd_T40 l0_0 a1).f2), .int .i64 ((rd_T40 l0_0 a1).f3)]] rfl ZH ?_; (with_reducible refine (meanderref09_low.calls ((rd_T40 l0_0 a1).f0) ((rd_T40 l0_0 a1).f1) ((rd_T40 l0_0 a1).f2) ((rd_T40 l0_0 a1).f3) t261 _ A5.out).mono ?_); rintro e w10 ⟨rfl, hb⟩; refine ⟨_, rfl, ?_⟩; have n0_ := ZM (blk_below (g := gb259) (o := .cells #[.slice (some ad260) l0_0.length c0_0, .slice A0_1 l0_1.length c0_1] 27 (0, 0)) (ZBK BK259.out) hb); have n1_ := ZM (ZW (ZBB HB.out) hb); clear BK259; clear HB; have BK259 := n0_; have HB := n1_; clear n0_ n1_; (try clear hb); (try clear hb2); (try clear hk); (try clear hi); have hcz11_0 : w10.cell? ⟨gb259, 0, none⟩ = some (.slice (some ad260) l0_0.length c0_0) := (ZG BK259.out 0).trans rfl; have hcz11_1 : w10.cell? ⟨gb259, 1, none⟩ = some (.slice A0_1 l0_1.length c0_1) := (ZG BK259.out 1).trans rfl; have hfz11_0 := ZF BK259.out 0; have hfz11_1 := ZF BK259.out 1) | ((with_reducible refine gate_dst (N := 20) rfl ?_); refine Kd.R_make Kd.bool _ 4 rfl (N := 20) rfl 87 _ _ rfl (l0_0.length : Int) rfl rfl Tryd.underlying87 (.bool false) 1 info4 rfl (by decide) (by omega) false (ok := fun _ => True) (okp := fun _ => True) rfl (fun _ hk => hk) trivial (ZOD) (Nat.le_trans (Nat.mul_le_mul_right _ (ZOD : (l0_0.length : Int).toNat ≤ 281474976710656)) (by omega)) (Below.refl _ _) (Nat.le_refl _) ?_; intro v263 w12 ho13 hb hg_ hnew_; clear hg_ hnew_; (first | rw [← Ny262.out] at ho13 | (simp only [Int.reduceToNat] at ho13; rw [← Ny262.out] at ho13)); have n0_ := ZM (Kd.R_lower ho13 (ZV (ZBB HB.out))); have n1_ := ZM (blk_below (g := gb259) (o := .cells #[.slice (some ad260) l0_0.length c0_0, .slice A0_1 l0_1.length c0_1] 27 (0, 0)) (ZBK BK259.out) hb); have n2_ := ZM (ZW (ZBB HB.out) hb); clear BK259; clear HB; have HO264 := n0_; have BK259 := n1_; have HB := n2_; clear n0_ n1_ n2_; clear hb ho13))
 go_loopg [7] k (fun kq v7 w' => ∃ (x6_1 : List Bool) (x7_1 : Int), v7 = .int .i64 x7_1 ∧ Aside0 (meanderref09_round.l0 kq a1 t261 x6_1 x7_1 l0_0 l0_1 = some r) ∧ Aside0 (kq ≤ k) ∧ Aside0 (Kd.R Kd.bool 4 w' w.heap.size (fun _ => True) v263 x6_1) ∧ Aside0 (w'.heap[gb259]? = some (.cells #[(.slice (some ad260) l0_0.length c0_0), (.slice A0_1 l0_1.length c0_1)] 27 (0, 0))) ∧ Aside0 (Below w.heap.size w w'))
 case atStart => exact ⟨(y262), (0), (by first | rfl | (simp; done) | (simp [*]; done)), H', ⟨Nat.le_refl _⟩, ⟨ZRK HO264.out⟩, ⟨ZBK BK259.out⟩, ⟨ZBB HB.out⟩⟩
 case round =>
  clear H'
  try clear c3
  try clear c3b0
  try clear c4
  try clear c4b0
  try clear c6
  try clear c6b0
  try clear c6b1
  try clear c7
  try clear c7b0
  try clear c7b1
  try clear hcz11_0
  try clear hcz11_1
  try clear hcz9_0
  try clear hcz9_1
  try clear hfz11_0
  try clear hfz11_1
  try clear hfz9_0
  try clear hfz9_1
  try clear hx260_0
  try clear hx260_1
  try clear hx260_2
  try clear hx260_3
  try clear p260
  try clear q260
  obtain ⟨x6_1, x7_1, rfl, HA, HK1, HO_6, BK259, HB⟩ := hrel
  cases gk with
  | zero => exact absurd HA.out (by simp [meanderref09_round.l0])
  | succ k1 =>
   have H := HA.out
   clear HA
   simp only [meanderref09_round.l0] at H
   by_cases c14 : x7_1 < (l0_0.length : Int)
   ·rw [if_pos c14] at H
    have c14b0 : decide (x7_1 < (l0_0.length : Int)) = true := decide_eq_true c14
    clear c14
    have H' := ZM H
    clear H
    have hcz15_0 : wr.cell? ⟨gb259, 0, none⟩ = some (.slice (some ad260) l0_0.length c0_0) := (ZG BK259.out 0).trans rfl
    have hcz15_1 : wr.cell? ⟨gb259, 1, none⟩ = some (.slice A0_1 l0_1.length c0_1) := (ZG BK259.out 1).trans rfl
    have hfz15_0 := ZF BK259.out 0
    have hfz15_1 := ZF BK259.out 1
    go_wp2
    go_loopg [8] k1 (fun kq v8 w' => ∃ (x6_2 : List Bool) (x8_2 : Int), v8 = .int .i64 x8_2 ∧ Aside0 (meanderref09_round.l1 kq a1 t261 x6_2 x7_1 x8_2 l0_0 l0_1 = some r) ∧ Aside0 (kq ≤ k1) ∧ Aside0 (Kd.R Kd.bool 4 w' w.heap.size (fun _ => True) v263 x6_2) ∧ Aside0 (w'.heap[gb259]? = some (.cells #[(.slice (some ad260) l0_0.length c0_0), (.slice A0_1 l0_1.length c0_1)] 27 (0, 0))) ∧ Aside0 (Below w.heap.size w w'))
    case atStart => exact ⟨(x6_1), (0), (by first | rfl | (simp; done) | (simp [*]; done)), H', ⟨Nat.le_refl _⟩, ⟨ZRK HO_6.out⟩, ⟨ZBK BK259.out⟩, ⟨ZBB HB.out⟩⟩
    case round =>
     clear H'
     try clear c3
     try clear c3b0
     try clear c4
     try clear c4b0
     try clear c6
     try clear c6b0
     try clear c6b1
     try clear c7
     try clear c7b0
     try clear c7b1
     try clear c14
     try clear c14b0
     try clear hcz11_0
     try clear hcz11_1
     try clear hcz15_0
     try clear hcz15_1
     try clear hcz9_0
     try clear hcz9_1
     try clear hfz11_0
     try clear hfz11_1
     try clear hfz15_0
     try clear hfz15_1
     try clear hfz9_0
     try clear hfz9_1
     try clear hx260_0
     try clear hx260_1
     try clear hx260_2
     try clear hx260_3
     try clear p260
     try clear q260
     obtain ⟨x6_2, x8_2, rfl, HA, HK2, HO_6, BK259, HB⟩ := hrel
     cases gk with
     | zero => exact absurd HA.out (by simp [meanderref09_round.l1])
     | succ k2 =>
      have H := HA.out
      clear HA
      simp only [meanderref09_round.l1] at H
      by_cases c16 : x8_2 < (l0_1.length : Int)
      ·rw [if_pos c16] at H
       have c16b0 : decide (x8_2 < (l0_1.length : Int)) = true := decide_eq_true c16
       clear c16
       by_cases c17 : 0 ≤ x8_2
       case neg =>
        rw [if_neg c17] at H
        exact absurd H (by simp)
       rw [if_pos c17] at H
       have c17b0 : decide (0 ≤ x8_2) = true := decide_eq_true c17
       clear c17
       by_cases c18 : 0 ≤ ((rd_T42 l0_1 x8_2).f1)
       case neg =>
        rw [if_neg c18] at H
        exact absurd H (by simp)
       rw [if_pos c18] at H
       have c18b0 : decide (0 ≤ ((rd_T42 l0_1 x8_2).f1)) = true := decide_eq_true c18
       clear c18
       by_cases c19 : ((rd_T42 l0_1 x8_2).f1) < (l0_0.length : Int)
       case neg =>
        rw [if_neg c19] at H
        exact absurd H (by simp)
       rw [if_pos c19] at H
       have c19b0 : decide (((rd_T42 l0_1 x8_2).f1) < (l0_0.length : Int)) = true := decide_eq_true c19
       clear c19
       have HC20 := ZM H
       clear H
       have hcz21_0 : wr.cell? ⟨gb259, 0, none⟩ = some (.slice (some ad260) l0_0.length c0_0) := (ZG BK259.out 0).trans rfl
       have hcz21_1 : wr.cell? ⟨gb259, 1, none⟩ = some (.slice A0_1 l0_1.length c0_1) := (ZG BK259.out 1).trans rfl
       have hfz21_0 := ZF BK259.out 0
       have hfz21_1 := ZF BK259.out 1
       have p266 : 0 ≤ (x8_2 : Int) := ZOD
       have q266 : x8_2 < (l0_1.length : Int) := ZOD
       obtain ⟨ad266, e266, hx266_0, hx266_1, hx266_2⟩ := at_T42 HR0_1.out x8_2 p266 q266
       cases e266
       replace hx266_0 := (HB.out.cell (ZC w _ hx266_0)).trans hx266_0
       replace hx266_1 := (HB.out.cell (ZC w _ hx266_1)).trans hx266_1
       replace hx266_2 := (HB.out.cell (ZC w _ hx266_2)).trans hx266_2
       replace p266 := eq_true p266
       replace q266 := eq_true q266
       go_upto_region 11 with (first | ((with_reducible refine gate_dst (N := 9) rfl ?_); refine box_event ?hg (N := 9) ?hd (cs := #[.int .i64 0, .int .i64 0, .int .i64 0]) (t := 42) ?hr ?_; (case hd => rfl); (case hg => rfl); (case hr => first | (go_simp; done) | (go_simp; rfl)); intro gb267 hg w22 hbox hb; have n0_ := ZM (Kd.R_below (ZRK HO_6.out) hb); have n1_ := ZM (blk_below (g := gb259) (o := .cells #[.slice (some ad260) l0_0.length c0_0, .slice (some ad266) l0_1.length c0_1] 27 (0, 0)) (ZBK BK259.out) hb); have n2_ := ZM (ZW (ZBB HB.out) hb); have n3_ := ZM (hbox); have n4_ := ZM ((by rw [hg]; exact (ZV (ZBB HB.out)) : w.heap.size ≤ gb267)); have n5_ := ZM ((by rw [hg]; exact (ZV (ZBB HB.out)) : w.heap.size ≤ gb267)); have n6_ := ZM ((by rw [hg]; exact Nat.ne_of_lt (blk_lt (g := gb259) (o := .cells #[.slice (some ad260) l0_0.length c0_0, .slice (some ad266) l0_1.length c0_1] 27 (0, 0)) (ZBK BK259.out)) : gb259 ≠ gb267)); have n7_ := ZM ((by rw [hg]; exact Nat.ne_of_gt (blk_lt (g := gb259) (o := .cells #[.slice (some ad260) l0_0.length c0_0, .slice (some ad266) l0_1.length c0_1] 27 (0, 0)) (ZBK BK259.out)) : gb267 ≠ gb259)); clear HO_6; clear BK259; clear HB; have HO_6 := n0_; have BK259 := n1_; have HB := n2_; have BK267 := n3_; have GW267 := n4_; have GE267 := n5_; have NB259_267 := n6_; have NB267_259 := n7_; clear n0_ n1_ n2_ n3_ n4_ n5_ n6_ n7_; clear hb hbox hg; have hnb23 := NB267_259.out; have hnc23 := NB259_267.out; have hcz24_0 : w22.cell? ⟨gb267, 0, none⟩ = some (.int .i64 0) := (ZG BK267.out 0).trans rfl; have hcz24_1 : w22.cell? ⟨gb267, 1, none⟩ = some (.int .i64 0) := (ZG BK267.out 1).trans rfl; have hcz24_2 : w22.cell? ⟨gb267, 2, none⟩ = some (.int .i64 0) := (ZG BK267.out 2).trans rfl; have hfz24_0 := ZF BK267.out 0; have hfz24_1 := ZF BK267.out 1; have hfz24_2 := ZF BK267.out 2; have hcz25_0 : w22.cell? ⟨gb259, 0, none⟩ = some (.slice (some ad260) l0_0.length c0_0) := (ZG BK259.out 0).trans rfl; have hcz25_1 : w22.cell? ⟨gb259, 1, none⟩ = some (.slice (some ad266) l0_1.length c0_1) := (ZG BK259.out 1).trans rfl; have hfz25_0 := ZF BK259.out 0; have hfz25_1 := ZF BK259.out 1; have p268 : 0 ≤ (((rd_T42 l0_1 x8_2).f1) : Int) := ZOD; have q268 : ((rd_T42 l0_1 x8_2).f1) < (l0_0.length : Int) := ZOD; obtain ⟨ad268, e268, hx268_0, hx268_1, hx268_2, hx268_3⟩ := at_T40 HR0_0.out ((rd_T42 l0_1 x8_2).f1) p268 q268; obtain rfl : ad260 = ad268 := (by injection e268); have hn268_0 : ad260.block ≠ gb267 := Nat.ne_of_lt (Nat.lt_of_lt_of_le (by have := ZC _ _ hx268_0; first | rwa [add_block] at this | exact this) GW267.out); have hn268_1 : ad260.block ≠ gb267 := Nat.ne_of_lt (Nat.lt_of_lt_of_le (by have := ZC _ _ hx268_0; first | rwa [add_block] at this | exact this) GW267.out); have hn268_2 : ad260.block ≠ gb267 := Nat.ne_of_lt (Nat.lt_of_lt_of_le (by have := ZC _ _ hx268_0; first | rwa [add_block] at this | exact this) GW267.out); replace hx268_0 := (HB.out.cell (ZC w _ hx268_0)).trans hx268_0; replace hx268_1 := (HB.out.cell (ZC w _ hx268_1)).trans hx268_1; replace hx268_2 := (HB.out.cell (ZC w _ hx268_2)).trans hx268_2; replace hx268_3 := (HB.out.cell (ZC w _ hx268_3)).trans hx268_3; replace hx268_0 := (cell_far (p := ⟨gb267, 0, none⟩) (by first | (rw [add_block]; exact hn268_0) | (show (Addr.add _ _).block ≠ _; rw [add_block]; exact hn268_0) | exact hn268_0) (.int .i64 ((rd_T42 l0_1 x8_2).f0))).trans hx268_0; replace hx268_1 := (cell_far (p := ⟨gb267, 0, none⟩) (by first | (rw [add_block]; exact hn268_0) | (show (Addr.add _ _).block ≠ _; rw [add_block]; exact hn268_0) | exact hn268_0) (.int .i64 ((rd_T42 l0_1 x8_2).f0))).trans hx268_1; replace hx268_2 := (cell_far (p := ⟨gb267, 0, none⟩) (by first | (rw [add_block]; exact hn268_0) | (show (Addr.add _ _).block ≠ _; rw [add_block]; exact hn268_0) | exact hn268_0) (.int .i64 ((rd_T42 l0_1 x8_2).f0))).trans hx268_2; replace hx268_3 := (cell_far (p := ⟨gb267, 0, none⟩) (by first | (rw [add_block]; exact hn268_0) | (show (Addr.add _ _).block ≠ _; rw [add_block]; exact hn268_0) | exact hn268_0) (.int .i64 ((rd_T42 l0_1 x8_2).f0))).trans hx268_3; replace hx268_0 := (cell_far (p := ⟨gb267, 1, none⟩) (by first | (rw [add_block]; exact hn268_1) | (show (Addr.add _ _).block ≠ _; rw [add_block]; exact hn268_1) | exact hn268_1) (.int .i64 ((rd_T42 l0_1 x8_2).f1))).trans hx268_0; replace hx268_1 := (cell_far (p := ⟨gb267, 1, none⟩) (by first | (rw [add_block]; exact hn268_1) | (show (Addr.add _ _).block ≠ _; rw [add_block]; exact hn268_1) | exact hn268_1) (.int .i64 ((rd_T42 l0_1 x8_2).f1))).trans hx268_1; replace hx268_2 := (cell_far (p := ⟨gb267, 1, none⟩) (by first | (rw [add_block]; exact hn268_1) | (show (Addr.add _ _).block ≠ _; rw [add_block]; exact hn268_1) | exact hn268_1) (.int .i64 ((rd_T42 l0_1 x8_2).f1))).trans hx268_2; replace hx268_3 := (cell_far (p := ⟨gb267, 1, none⟩) (by first | (rw [add_block]; exact hn268_1) | (show (Addr.add _ _).block ≠ _; rw [add_block]; exact hn268_1) | exact hn268_1) (.int .i64 ((rd_T42 l0_1 x8_2).f1))).trans hx268_3; replace hx268_0 := (cell_far (p := ⟨gb267, 2, none⟩) (by first | (rw [add_block]; exact hn268_2) | (show (Addr.add _ _).block ≠ _; rw [add_block]; exact hn268_2) | exact hn268_2) (.int .i64 ((rd_T42 l0_1 x8_2).f2))).trans hx268_0; replace hx268_1 := (cell_far (p := ⟨gb267, 2, none⟩) (by first | (rw [add_block]; exact hn268_2) | (show (Addr.add _ _).block ≠ _; rw [add_block]; exact hn268_2) | exact hn268_2) (.int .i64 ((rd_T42 l0_1 x8_2).f2))).trans hx268_1; replace hx268_2 := (cell_far (p := ⟨gb267, 2, none⟩) (by first | (rw [add_block]; exact hn268_2) | (show (Addr.add _ _).block ≠ _; rw [add_block]; exact hn268_2) | exact hn268_2) (.int .i64 ((rd_T42 l0_1 x8_2).f2))).trans hx268_2; replace hx268_3 := (cell_far (p := ⟨gb267, 2, none⟩) (by first | (rw [add_block]; exact hn268_2) | (show (Addr.add _ _).block ≠ _; rw [add_block]; exact hn268_2) | exact hn268_2) (.int .i64 ((rd_T42 l0_1 x8_2).f2))).trans hx268_3; clear hn268_0; clear hn268_1; clear hn268_2; replace p268 := eq_true p268; replace q268 := eq_true q268) | ((with_reducible refine gate_dst (N := 10) rfl ?_); refine box_event ?hg (N := 10) ?hd (cs := #[.int .i64 0, .int .i64 0, .int .i64 0, .int .i64 0]) (t := 40) ?hr ?_; (case hd => rfl); (case hg => rfl); (case hr => first | (go_simp; done) | (go_simp; rfl)); intro gb269 hg w26 hbox hb; have n0_ := ZM (Kd.R_below (by (with_reducible repeat (first | apply ZY | apply ZX | apply ZZ)); exact (Kd.R_mono (Kd.R_far (p := ⟨gb267, 2, none⟩) (Kd.R_far (p := ⟨gb267, 1, none⟩) (Kd.R_far (p := ⟨gb267, 0, none⟩) (Kd.R_types HO_6.out BK267.out (by decide)) (fun _ hk => hk.2) (.int .i64 ((rd_T42 l0_1 x8_2).f0))) (fun _ hk => hk.2) (.int .i64 ((rd_T42 l0_1 x8_2).f1))) (fun _ hk => hk.2) (.int .i64 ((rd_T42 l0_1 x8_2).f2))) (fun _ h_ => h_.1))) hb); have n1_ := ZM (blk_below (g := gb259) (o := .cells #[.slice (some ad260) l0_0.length c0_0, .slice (some ad266) l0_1.length c0_1] 27 (0, 0)) (by (with_reducible repeat (first | refine ZR ?_ _ | refine ZS ?_ | refine ZT ?_ _)); refine blk_far ?_ NB259_267.out _; (with_reducible repeat (first | refine ZR ?_ _ | refine ZS ?_ | refine ZT ?_ _)); refine blk_far ?_ NB259_267.out _; (with_reducible repeat (first | refine ZR ?_ _ | refine ZS ?_ | refine ZT ?_ _)); refine blk_far ?_ NB259_267.out _; (with_reducible repeat (first | refine ZR ?_ _ | refine ZS ?_ | refine ZT ?_ _)); exact BK259.out) hb); have n2_ := ZM (blk_below (g := gb267) (o := .cells #[.int .i64 ((rd_T42 l0_1 x8_2).f0), .int .i64 ((rd_T42 l0_1 x8_2).f1), .int .i64 ((rd_T42 l0_1 x8_2).f2)] 42 (0, 0)) (by (with_reducible repeat (first | refine ZR ?_ _ | refine ZS ?_ | refine ZT ?_ _)); refine blk_put (cs := #[.int .i64 ((rd_T42 l0_1 x8_2).f0), .int .i64 ((rd_T42 l0_1 x8_2).f1), .int .i64 0]) ?_ 2 _ rfl; (with_reducible repeat (first | refine ZR ?_ _ | refine ZS ?_ | refine ZT ?_ _)); refine blk_put (cs := #[.int .i64 ((rd_T42 l0_1 x8_2).f0), .int .i64 0, .int .i64 0]) ?_ 1 _ rfl; (with_reducible repeat (first | refine ZR ?_ _ | refine ZS ?_ | refine ZT ?_ _)); refine blk_put (cs := #[.int .i64 0, .int .i64 0, .int .i64 0]) ?_ 0 _ rfl; (with_reducible repeat (first | refine ZR ?_ _ | refine ZS ?_ | refine ZT ?_ _)); exact BK267.out) hb); have n3_ := ZM (ZW (ZBB HB.out) hb); have n4_ := ZM (hbox); have n5_ := ZM ((by rw [hg]; exact (ZV (ZBB HB.out)) : w.heap.size ≤ gb269)); have n6_ := ZM ((by rw [hg]; exact (ZV (ZBB HB.out)) : w.heap.size ≤ gb269)); have n7_ := ZM ((by rw [hg]; exact Nat.ne_of_lt (blk_lt (g := gb259) (o := .cells #[.slice (some ad260) l0_0.length c0_0, .slice (some ad266) l0_1.length c0_1] 27 (0, 0)) (by (with_reducible repeat (first | refine ZR ?_ _ | refine ZS ?_ | refine ZT ?_ _)); refine blk_far ?_ NB259_267.out _; (with_reducible repeat (first | refine ZR ?_ _ | refine ZS ?_ | refine ZT ?_ _)); refine blk_far ?_ NB259_267.out _; (with_reducible repeat (first | refine ZR ?_ _ | refine ZS ?_ | refine ZT ?_ _)); refine blk_far ?_ NB259_267.out _; (with_reducible repeat (first | refine ZR ?_ _ | refine ZS ?_ | refine ZT ?_ _)); exact BK259.out)) : gb259 ≠ gb269)); have n8_ := ZM ((by rw [hg]; exact Nat.ne_of_gt (blk_lt (g := gb259) (o := .cells #[.slice (some ad260) l0_0.length c0_0, .slice (some ad266) l0_1.length c0_1] 27 (0, 0)) (by (with_reducible repeat (first | refine ZR ?_ _ | refine ZS ?_ | refine ZT ?_ _)); refine blk_far ?_ NB259_267.out _; (with_reducible repeat (first | refine ZR ?_ _ | refine ZS ?_ | refine ZT ?_ _)); refine blk_far ?_ NB259_267.out _; (with_reducible repeat (first | refine ZR ?_ _ | refine ZS ?_ | refine ZT ?_ _)); refine blk_far ?_ NB259_267.out _; (with_reducible repeat (first | refine ZR ?_ _ | refine ZS ?_ | refine ZT ?_ _)); exact BK259.out)) : gb269 ≠ gb259)); have n9_ := ZM ((by rw [hg]; exact Nat.ne_of_lt (blk_lt (g := gb267) (o := .cells #[.int .i64 ((rd_T42 l0_1 x8_2).f0), .int .i64 ((rd_T42 l0_1 x8_2).f1), .int .i64 ((rd_T42 l0_1 x8_2).f2)] 42 (0, 0)) (by (with_reducible repeat (first | refine ZR ?_ _ | refine ZS ?_ | refine ZT ?_ _)); refine blk_put (cs := #[.int .i64 ((rd_T42 l0_1 x8_2).f0), .int .i64 ((rd_T42 l0_1 x8_2).f1), .int .i64 0]) ?_ 2 _ rfl; (with_reducible repeat (first | refine ZR ?_ _ | refine ZS ?_ | refine ZT ?_ _)); refine blk_put (cs := #[.int .i64 ((rd_T42 l0_1 x8_2).f0), .int .i64 0, .int .i64 0]) ?_ 1 _ rfl; (with_reducible repeat (first | refine ZR ?_ _ | refine ZS ?_ | refine ZT ?_ _)); refine blk_put (cs := #[.int .i64 0, .int .i64 0, .int .i64 0]) ?_ 0 _ rfl; (with_reducible repeat (first | refine ZR ?_ _ | refine ZS ?_ | refine ZT ?_ _)); exact BK267.out)) : gb267 ≠ gb269)); have n10_ := ZM ((by rw [hg]; exact Nat.ne_of_gt (blk_lt (g := gb267) (o := .cells #[.int .i64 ((rd_T42 l0_1 x8_2).f0), .int .i64 ((rd_T42 l0_1 x8_2).f1), .int .i64 ((rd_T42 l0_1 x8_2).f2)] 42 (0, 0)) (by (with_reducible repeat (first | refine ZR ?_ _ | refine ZS ?_ | refine ZT ?_ _)); refine blk_put (cs := #[.int .i64 ((rd_T42 l0_1 x8_2).f0), .int .i64 ((rd_T42 l0_1 x8_2).f1), .int .i64 0]) ?_ 2 _ rfl; (with_reducible repeat (first | refine ZR ?_ _ | refine ZS ?_ | refine ZT ?_ _)); refine blk_put (cs := #[.int .i64 ((rd_T42 l0_1 x8_2).f0), .int .i64 0, .int .i64 0]) ?_ 1 _ rfl; (with_reducible repeat (first | refine ZR ?_ _ | refine ZS ?_ | refine ZT ?_ _)); refine blk_put (cs := #[.int .i64 0, .int .i64 0, .int .i64 0]) ?_ 0 _ rfl; (with_reducible repeat (first | refine ZR ?_ _ | refine ZS ?_ | refine ZT ?_ _)); exact BK267.out)) : gb269 ≠ gb267)); clear HO_6; clear BK259; clear BK267; clear HB; have HO_6 := n0_; have BK259 := n1_; have BK267 := n2_; have HB := n3_; have BK269 := n4_; have GW269 := n5_; have GE269 := n6_; have NB259_269 := n7_; have NB269_259 := n8_; have NB267_269 := n9_; have NB269_267 := n10_; clear n0_ n1_ n2_ n3_ n4_ n5_ n6_ n7_ n8_ n9_ n10_; clear hb hbox hg; have hnb27 := NB269_259.out; have hnc27 := NB259_269.out; have hnb28 := NB269_267.out; have hnc28 := NB267_269.out; have hcz29_0 : w26.cell? ⟨gb269, 0, none⟩ = some (.int .i64 0) := (ZG BK269.out 0).trans rfl; have hcz29_1 : w26.cell? ⟨gb269, 1, none⟩ = some (.int .i64 0) := (ZG BK269.out 1).trans rfl; have hcz29_2 : w26.cell? ⟨gb269, 2, none⟩ = some (.int .i64 0) := (ZG BK269.out 2).trans rfl; have hcz29_3 : w26.cell? ⟨gb269, 3, none⟩ = some (.int .i64 0) := (ZG BK269.out 3).trans rfl; have hfz29_0 := ZF BK269.out 0; have hfz29_1 := ZF BK269.out 1; have hfz29_2 := ZF BK269.out 2; have hfz29_3 := ZF BK269.out 3))
       (try simp only [Act.put, ZI, ZJ, ZK])
       go_cut [60] (fun v60 wc => ∃ (kq : Nat) (x60_19 : Bool), v60 = .bool x60_19 ∧ Aside0 (meanderref09_round.j2 kq a1 t261 x6_2 x7_1 x8_2 x60_19 l0_0 l0_1 ((rd_T42 l0_1 x8_2).f0) ((rd_T42 l0_1 x8_2).f1) ((rd_T42 l0_1 x8_2).f2) = some r) ∧ Aside0 (kq ≤ k2) ∧ Aside0 (Kd.R Kd.bool 4 wc w.heap.size (fun _ => True) v263 x6_2) ∧ Aside0 (wc.heap[gb259]? = some (.cells #[(.slice (some ad260) l0_0.length c0_0), (.slice (some ad266) l0_1.length c0_1)] 27 (0, 0))) ∧ Aside0 (wc.heap[gb267]? = some (.cells #[.int .i64 ((rd_T42 l0_1 x8_2).f0), .int .i64 ((rd_T42 l0_1 x8_2).f1), .int .i64 ((rd_T42 l0_1 x8_2).f2)] 42 (0, 0))) ∧ Aside0 (wc.heap[gb269]? = some (.cells #[.int .i64 ((rd_T40 l0_0 ((rd_T42 l0_1 x8_2).f1)).f0), .int .i64 ((rd_T40 l0_0 ((rd_T42 l0_1 x8_2).f1)).f1), .int .i64 ((rd_T40 l0_0 ((rd_T42 l0_1 x8_2).f1)).f2), .int .i64 ((rd_T40 l0_0 ((rd_T42 l0_1 x8_2).f1)).f3)] 40 (0, 0))) ∧ Aside0 (Below w.heap.size w wc))
       case first =>
        have H := HC20.out
        clear HC20
        replace H := Option.bind_eq_some_iff.mp H
        obtain ⟨t270, A300, H⟩ := H
        replace H : (if t270 < t261 then (meanderref09_round.j2 k2 a1 t261 x6_2 x7_1 x8_2 true l0_0 l0_1 ((rd_T42 l0_1 x8_2).f0) ((rd_T42 l0_1 x8_2).f1) ((rd_T42 l0_1 x8_2).f2)) else (if ((rd_T40 l0_0 ((rd_T42 l0_1 x8_2).f1)).f0) = 10 then (meanderref09_round.j2 k2 a1 t261 x6_2 x7_1 x8_2 (((rd_T40 l0_0 ((rd_T42 l0_1 x8_2).f1)).f3) == t261) l0_0 l0_1 ((rd_T42 l0_1 x8_2).f0) ((rd_T42 l0_1 x8_2).f1) ((rd_T42 l0_1 x8_2).f2)) else (meanderref09_round.j2 k2 a1 t261 x6_2 x7_1 x8_2 false l0_0 l0_1 ((rd_T42 l0_1 x8_2).f0) ((rd_T42 l0_1 x8_2).f1) ((rd_T42 l0_1 x8_2).f2)))) = some r := H
        have A30 := ZM A300
        clear A300
        by_cases c31 : t270 < t261
        ·rw [if_pos c31] at H
         have c31b0 : decide (t270 < t261) = true := decide_eq_true c31
         clear c31
         (first | rw [c31b0] | (simp only [i64_w, i32_w]; rw [c31b0]) | skip)
         have H' := ZM H
         clear H
         have hnb32 := NB269_259.out
         have hnc32 := NB259_269.out
         have hnb33 := NB269_267.out
         have hnc33 := NB267_269.out
         have hcz34_0 : w26.cell? ⟨gb269, 0, none⟩ = some (.int .i64 0) := (ZG BK269.out 0).trans rfl
         have hcz34_1 : w26.cell? ⟨gb269, 1, none⟩ = some (.int .i64 0) := (ZG BK269.out 1).trans rfl
         have hcz34_2 : w26.cell? ⟨gb269, 2, none⟩ = some (.int .i64 0) := (ZG BK269.out 2).trans rfl
         have hcz34_3 : w26.cell? ⟨gb269, 3, none⟩ = some (.int .i64 0) := (ZG BK269.out 3).trans rfl
         have hfz34_0 := ZF BK269.out 0
         have hfz34_1 := ZF BK269.out 1
         have hfz34_2 := ZF BK269.out 2
         have hfz34_3 := ZF BK269.out 3
         go_wp2_with (first | ((with_reducible refine gate_callee (f := 48) rfl ?_); refine goesL_ (some 47) rfl rfl Tryd.func48 (by kernel_rfl) rfl #[.agg #[.int .i64 ((rd_T40 l0_0 ((rd_T42 l0_1 x8_2).f1)).f0), .int .i64 ((rd_T40 l0_0 ((rd_T42 l0_1 x8_2).f1)).f1), .int .i64 ((rd_T40 l0_0 ((rd_T42 l0_1 x8_2).f1)).f2), .int .i64 ((rd_T40 l0_0 ((rd_T42 l0_1 x8_2).f1)).f3)]] rfl ZH ?_; (with_reducible refine (meanderref09_low.calls ((rd_T40 l0_0 ((rd_T42 l0_1 x8_2).f1)).f0) ((rd_T40 l0_0 ((rd_T42 l0_1 x8_2).f1)).f1) ((rd_T40 l0_0 ((rd_T42 l0_1 x8_2).f1)).f2) ((rd_T40 l0_0 ((rd_T42 l0_1 x8_2).f1)).f3) t270 _ A30.out).mono ?_); rintro e w35 ⟨rfl, hb⟩; refine ⟨_, rfl, ?_⟩; have n0_ := ZM (Kd.R_below (by (with_reducible repeat (first | apply ZY | apply ZX | apply ZZ)); exact (Kd.R_mono (Kd.R_far (p := ⟨gb269, 3, none⟩) (Kd.R_far (p := ⟨gb269, 2, none⟩) (Kd.R_far (p := ⟨gb269, 1, none⟩) (Kd.R_far (p := ⟨gb269, 0, none⟩) (Kd.R_types HO_6.out BK269.out (by decide)) (fun _ hk => hk.2) (.int .i64 ((rd_T40 l0_0 ((rd_T42 l0_1 x8_2).f1)).f0))) (fun _ hk => hk.2) (.int .i64 ((rd_T40 l0_0 ((rd_T42 l0_1 x8_2).f1)).f1))) (fun _ hk => hk.2) (.int .i64 ((rd_T40 l0_0 ((rd_T42 l0_1 x8_2).f1)).f2))) (fun _ hk => hk.2) (.int .i64 ((rd_T40 l0_0 ((rd_T42 l0_1 x8_2).f1)).f3))) (fun _ h_ => h_.1))) hb); have n1_ := ZM (blk_below (g := gb259) (o := .cells #[.slice (some ad260) l0_0.length c0_0, .slice (some ad266) l0_1.length c0_1] 27 (0, 0)) (by (with_reducible repeat (first | refine ZR ?_ _ | refine ZS ?_ | refine ZT ?_ _)); refine blk_far ?_ NB259_269.out _; (with_reducible repeat (first | refine ZR ?_ _ | refine ZS ?_ | refine ZT ?_ _)); refine blk_far ?_ NB259_269.out _; (with_reducible repeat (first | refine ZR ?_ _ | refine ZS ?_ | refine ZT ?_ _)); refine blk_far ?_ NB259_269.out _; (with_reducible repeat (first | refine ZR ?_ _ | refine ZS ?_ | refine ZT ?_ _)); refine blk_far ?_ NB259_269.out _; (with_reducible repeat (first | refine ZR ?_ _ | refine ZS ?_ | refine ZT ?_ _)); exact BK259.out) hb); have n2_ := ZM (blk_below (g := gb267) (o := .cells #[.int .i64 ((rd_T42 l0_1 x8_2).f0), .int .i64 ((rd_T42 l0_1 x8_2).f1), .int .i64 ((rd_T42 l0_1 x8_2).f2)] 42 (0, 0)) (by (with_reducible repeat (first | refine ZR ?_ _ | refine ZS ?_ | refine ZT ?_ _)); refine blk_far ?_ NB267_269.out _; (with_reducible repeat (first | refine ZR ?_ _ | refine ZS ?_ | refine ZT ?_ _)); refine blk_far ?_ NB267_269.out _; (with_reducible repeat (first | refine ZR ?_ _ | refine ZS ?_ | refine ZT ?_ _)); refine blk_far ?_ NB267_269.out _; (with_reducible repeat (first | refine ZR ?_ _ | refine ZS ?_ | refine ZT ?_ _)); refine blk_far ?_ NB267_269.out _; (with_reducible repeat (first | refine ZR ?_ _ | refine ZS ?_ | refine ZT ?_ _)); exact BK267.out) hb); have n3_ := ZM (blk_below (g := gb269) (o := .cells #[.int .i64 ((rd_T40 l0_0 ((rd_T42 l0_1 x8_2).f1)).f0), .int .i64 ((rd_T40 l0_0 ((rd_T42 l0_1 x8_2).f1)).f1), .int .i64 ((rd_T40 l0_0 ((rd_T42 l0_1 x8_2).f1)).f2), .int .i64 ((rd_T40 l0_0 ((rd_T42 l0_1 x8_2).f1)).f3)] 40 (0, 0)) (by (with_reducible repeat (first | refine ZR ?_ _ | refine ZS ?_ | refine ZT ?_ _)); refine blk_put (cs := #[.int .i64 ((rd_T40 l0_0 ((rd_T42 l0_1 x8_2).f1)).f0), .int .i64 ((rd_T40 l0_0 ((rd_T42 l0_1 x8_2).f1)).f1), .int .i64 ((rd_T40 l0_0 ((rd_T42 l0_1 x8_2).f1)).f2), .int .i64 0]) ?_ 3 _ rfl; (with_reducible repeat (first | refine ZR ?_ _ | refine ZS ?_ | refine ZT ?_ _)); refine blk_put (cs := #[.int .i64 ((rd_T40 l0_0 ((rd_T42 l0_1 x8_2).f1)).f0), .int .i64 ((rd_T40 l0_0 ((rd_T42 l0_1 x8_2).f1)).f1), .int .i64 0, .int .i64 0]) ?_ 2 _ rfl; (with_reducible repeat (first | refine ZR ?_ _ | refine ZS ?_ | refine ZT ?_ _)); refine blk_put (cs := #[.int .i64 ((rd_T40 l0_0 ((rd_T42 l0_1 x8_2).f1)).f0), .int .i64 0, .int .i64 0, .int .i64 0]) ?_ 1 _ rfl; (with_reducible repeat (first | refine ZR ?_ _ | refine ZS ?_ | refine ZT ?_ _)); refine blk_put (cs := #[.int .i64 0, .int .i64 0, .int .i64 0, .int .i64 0]) ?_ 0 _ rfl; (with_reducible repeat (first | refine ZR ?_ _ | refine ZS ?_ | refine ZT ?_ _)); exact BK269.out) hb); have n4_ := ZM (ZW (ZBB HB.out) hb); clear HO_6; clear BK259; clear BK267; clear BK269; clear HB; have HO_6 := n0_; have BK259 := n1_; have BK267 := n2_; have BK269 := n3_; have HB := n4_; clear n0_ n1_ n2_ n3_ n4_; (try clear hb); (try clear hb2); (try clear hk); (try clear hi)))
         go_meet
         case rel => exact ⟨_, (true), (by first | rfl | (simp; done) | (simp [*]; done)), H', ⟨by have := HK1.out; have := HK2.out; first | omega | exact Nat.le_refl _⟩, ⟨ZRK HO_6.out⟩, ⟨ZBK BK259.out⟩, ⟨ZBK BK267.out⟩, ⟨ZBK BK269.out⟩, ⟨ZBB HB.out⟩⟩
        ·rw [if_neg c31] at H
         have c31b0 : decide (t270 < t261) = false := decide_eq_false c31
         clear c31
         (first | rw [c31b0] | (simp only [i64_w, i32_w]; rw [c31b0]) | skip)
         by_cases c36 : ((rd_T40 l0_0 ((rd_T42 l0_1 x8_2).f1)).f0) = 10
         ·rw [if_pos c36] at H
          have c36b0 : (((rd_T40 l0_0 ((rd_T42 l0_1 x8_2).f1)).f0) == 10) = true := beq_iff_eq.mpr c36
          have c36b1 : (((rd_T40 l0_0 ((rd_T42 l0_1 x8_2).f1)).f0) != 10) = false := bne_eq_false_iff_eq.mpr c36
          clear c36
          have H' := ZM H
          clear H
          have hnb37 := NB269_259.out
          have hnc37 := NB259_269.out
          have hnb38 := NB269_267.out
          have hnc38 := NB267_269.out
          have hcz39_0 : w26.cell? ⟨gb269, 0, none⟩ = some (.int .i64 0) := (ZG BK269.out 0).trans rfl
          have hcz39_1 : w26.cell? ⟨gb269, 1, none⟩ = some (.int .i64 0) := (ZG BK269.out 1).trans rfl
          have hcz39_2 : w26.cell? ⟨gb269, 2, none⟩ = some (.int .i64 0) := (ZG BK269.out 2).trans rfl
          have hcz39_3 : w26.cell? ⟨gb269, 3, none⟩ = some (.int .i64 0) := (ZG BK269.out 3).trans rfl
          have hfz39_0 := ZF BK269.out 0
          have hfz39_1 := ZF BK269.out 1
          have hfz39_2 := ZF BK269.out 2
          have hfz39_3 := ZF BK269.out 3
          go_wp2_with (first | ((with_reducible refine gate_callee (f := 48) rfl ?_); refine goesL_ (some 47) rfl rfl Tryd.func48 (by kernel_rfl) rfl #[.agg #[.int .i64 ((rd_T40 l0_0 ((rd_T42 l0_1 x8_2).f1)).f0), .int .i64 ((rd_T40 l0_0 ((rd_T42 l0_1 x8_2).f1)).f1), .int .i64 ((rd_T40 l0_0 ((rd_T42 l0_1 x8_2).f1)).f2), .int .i64 ((rd_T40 l0_0 ((rd_T42 l0_1 x8_2).f1)).f3)]] rfl ZH ?_; (with_reducible refine (meanderref09_low.calls ((rd_T40 l0_0 ((rd_T42 l0_1 x8_2).f1)).f0) ((rd_T40 l0_0 ((rd_T42 l0_1 x8_2).f1)).f1) ((rd_T40 l0_0 ((rd_T42 l0_1 x8_2).f1)).f2) ((rd_T40 l0_0 ((rd_T42 l0_1 x8_2).f1)).f3) t270 _ A30.out).mono ?_); rintro e w40 ⟨rfl, hb⟩; refine ⟨_, rfl, ?_⟩; have n0_ := ZM (Kd.R_below (by (with_reducible repeat (first | apply ZY | apply ZX | apply ZZ)); exact (Kd.R_mono (Kd.R_far (p := ⟨gb269, 3, none⟩) (Kd.R_far (p := ⟨gb269, 2, none⟩) (Kd.R_far (p := ⟨gb269, 1, none⟩) (Kd.R_far (p := ⟨gb269, 0, none⟩) (Kd.R_types HO_6.out BK269.out (by decide)) (fun _ hk => hk.2) (.int .i64 ((rd_T40 l0_0 ((rd_T42 l0_1 x8_2).f1)).f0))) (fun _ hk => hk.2) (.int .i64 ((rd_T40 l0_0 ((rd_T42 l0_1 x8_2).f1)).f1))) (fun _ hk => hk.2) (.int .i64 ((rd_T40 l0_0 ((rd_T42 l0_1 x8_2).f1)).f2))) (fun _ hk => hk.2) (.int .i64 ((rd_T40 l0_0 ((rd_T42 l0_1 x8_2).f1)).f3))) (fun _ h_ => h_.1))) hb); have n1_ := ZM (blk_below (g := gb259) (o := .cells #[.slice (some ad260) l0_0.length c0_0, .slice (some ad266) l0_1.length c0_1] 27 (0, 0)) (by (with_reducible repeat (first | refine ZR ?_ _ | refine ZS ?_ | refine ZT ?_ _)); refine blk_far ?_ NB259_269.out _; (with_reducible repeat (first | refine ZR ?_ _ | refine ZS ?_ | refine ZT ?_ _)); refine blk_far ?_ NB259_269.out _; (with_reducible repeat (first | refine ZR ?_ _ | refine ZS ?_ | refine ZT ?_ _)); refine blk_far ?_ NB259_269.out _; (with_reducible repeat (first | refine ZR ?_ _ | refine ZS ?_ | refine ZT ?_ _)); refine blk_far ?_ NB259_269.out _; (with_reducible repeat (first | refine ZR ?_ _ | refine ZS ?_ | refine ZT ?_ _)); exact BK259.out) hb); have n2_ := ZM (blk_below (g := gb267) (o := .cells #[.int .i64 ((rd_T42 l0_1 x8_2).f0), .int .i64 ((rd_T42 l0_1 x8_2).f1), .int .i64 ((rd_T42 l0_1 x8_2).f2)] 42 (0, 0)) (by (with_reducible repeat (first | refine ZR ?_ _ | refine ZS ?_ | refine ZT ?_ _)); refine blk_far ?_ NB267_269.out _; (with_reducible repeat (first | refine ZR ?_ _ | refine ZS ?_ | refine ZT ?_ _)); refine blk_far ?_ NB267_269.out _; (with_reducible repeat (first | refine ZR ?_ _ | refine ZS ?_ | refine ZT ?_ _)); refine blk_far ?_ NB267_269.out _; (with_reducible repeat (first | refine ZR ?_ _ | refine ZS ?_ | refine ZT ?_ _)); refine blk_far ?_ NB267_269.out _; (with_reducible repeat (first | refine ZR ?_ _ | refine ZS ?_ | refine ZT ?_ _)); exact BK267.out) hb); have n3_ := ZM (blk_below (g := gb269) (o := .cells #[.int .i64 ((rd_T40 l0_0 ((rd_T42 l0_1 x8_2).f1)).f0), .int .i64 ((rd_T40 l0_0 ((rd_T42 l0_1 x8_2).f1)).f1), .int .i64 ((rd_T40 l0_0 ((rd_T42 l0_1 x8_2).f1)).f2), .int .i64 ((rd_T40 l0_0 ((rd_T42 l0_1 x8_2).f1)).f3)] 40 (0, 0)) (by (with_reducible repeat (first | refine ZR ?_ _ | refine ZS ?_ | refine ZT ?_ _)); refine blk_put (cs := #[.int .i64 ((rd_T40 l0_0 ((rd_T42 l0_1 x8_2).f1)).f0), .int .i64 ((rd_T40 l0_0 ((rd_T42 l0_1 x8_2).f1)).f1), .int .i64 ((rd_T40 l0_0 ((rd_T42 l0_1 x8_2).f1)).f2), .int .i64 0]) ?_ 3 _ rfl; (with_reducible repeat (first | refine ZR ?_ _ | refine ZS ?_ | refine ZT ?_ _)); refine blk_put (cs := #[.int .i64 ((rd_T40 l0_0 ((rd_T42 l0_1 x8_2).f1)).f0), .int .i64 ((rd_T40 l0_0 ((rd_T42 l0_1 x8_2).f1)).f1), .int .i64 0, .int .i64 0]) ?_ 2 _ rfl; (with_reducible repeat (first | refine ZR ?_ _ | refine ZS ?_ | refine ZT ?_ _)); refine blk_put (cs := #[.int .i64 ((rd_T40 l0_0 ((rd_T42 l0_1 x8_2).f1)).f0), .int .i64 0, .int .i64 0, .int .i64 0]) ?_ 1 _ rfl; (with_reducible repeat (first | refine ZR ?_ _ | refine ZS ?_ | refine ZT ?_ _)); refine blk_put (cs := #[.int .i64 0, .int .i64 0, .int .i64 0, .int .i64 0]) ?_ 0 _ rfl; (with_reducible repeat (first | refine ZR ?_ _ | refine ZS ?_ | refine ZT ?_ _)); exact BK269.out) hb); have n4_ := ZM (ZW (ZBB HB.out) hb); clear HO_6; clear BK259; clear BK267; clear BK269; clear HB; have HO_6 := n0_; have BK259 := n1_; have BK267 := n2_; have BK269 := n3_; have HB := n4_; clear n0_ n1_ n2_ n3_ n4_; (try clear hb); (try clear hb2); (try clear hk); (try clear hi); have hcz41_0 : w40.cell? ⟨gb269, 0, none⟩ = some (.int .i64 ((rd_T40 l0_0 ((rd_T42 l0_1 x8_2).f1)).f0)) := (ZG BK269.out 0).trans rfl; have hcz41_1 : w40.cell? ⟨gb269, 1, none⟩ = some (.int .i64 ((rd_T40 l0_0 ((rd_T42 l0_1 x8_2).f1)).f1)) := (ZG BK269.out 1).trans rfl; have hcz41_2 : w40.cell? ⟨gb269, 2, none⟩ = some (.int .i64 ((rd_T40 l0_0 ((rd_T42 l0_1 x8_2).f1)).f2)) := (ZG BK269.out 2).trans rfl; have hcz41_3 : w40.cell? ⟨gb269, 3, none⟩ = some (.int .i64 ((rd_T40 l0_0 ((rd_T42 l0_1 x8_2).f1)).f3)) := (ZG BK269.out 3).trans rfl; have hfz41_0 := ZF BK269.out 0; have hfz41_1 := ZF BK269.out 1; have hfz41_2 := ZF BK269.out 2; have hfz41_3 := ZF BK269.out 3))
          go_meet
          case rel => exact ⟨_, ((((rd_T40 l0_0 ((rd_T42 l0_1 x8_2).f1)).f3) == t261)), (by first | rfl | (simp; done) | (simp [*]; done)), H', ⟨by have := HK1.out; have := HK2.out; first | omega | exact Nat.le_refl _⟩, ⟨ZRK HO_6.out⟩, ⟨ZBK BK259.out⟩, ⟨ZBK BK267.out⟩, ⟨ZBK BK269.out⟩, ⟨ZBB HB.out⟩⟩
         ·rw [if_neg c36] at H
          have c36b0 : (((rd_T40 l0_0 ((rd_T42 l0_1 x8_2).f1)).f0) == 10) = false := beq_eq_false_iff_ne.mpr c36
          have c36b1 : (((rd_T40 l0_0 ((rd_T42 l0_1 x8_2).f1)).f0) != 10) = true := bne_iff_ne.mpr c36
          have H' := ZM H
          clear H
          have hnb42 := NB269_259.out
          have hnc42 := NB259_269.out
          have hnb43 := NB269_267.out
          have hnc43 := NB267_269.out
          have hcz44_0 : w26.cell? ⟨gb269, 0, none⟩ = some (.int .i64 0) := (ZG BK269.out 0).trans rfl
          have hcz44_1 : w26.cell? ⟨gb269, 1, none⟩ = some (.int .i64 0) := (ZG BK269.out 1).trans rfl
          have hcz44_2 : w26.cell? ⟨gb269, 2, none⟩ = some (.int .i64 0) := (ZG BK269.out 2).trans rfl
          have hcz44_3 : w26.cell? ⟨gb269, 3, none⟩ = some (.int .i64 0) := (ZG BK269.out 3).trans rfl
          have hfz44_0 := ZF BK269.out 0
          have hfz44_1 := ZF BK269.out 1
          have hfz44_2 := ZF BK269.out 2
          have hfz44_3 := ZF BK269.out 3
          go_wp2_with (first | ((with_reducible refine gate_callee (f := 48) rfl ?_); refine goesL_ (some 47) rfl rfl Tryd.func48 (by kernel_rfl) rfl #[.agg #[.int .i64 ((rd_T40 l0_0 ((rd_T42 l0_1 x8_2).f1)).f0), .int .i64 ((rd_T40 l0_0 ((rd_T42 l0_1 x8_2).f1)).f1), .int .i64 ((rd_T40 l0_0 ((rd_T42 l0_1 x8_2).f1)).f2), .int .i64 ((rd_T40 l0_0 ((rd_T42 l0_1 x8_2).f1)).f3)]] rfl ZH ?_; (with_reducible refine (meanderref09_low.calls ((rd_T40 l0_0 ((rd_T42 l0_1 x8_2).f1)).f0) ((rd_T40 l0_0 ((rd_T42 l0_1 x8_2).f1)).f1) ((rd_T40 l0_0 ((rd_T42 l0_1 x8_2).f1)).f2) ((rd_T40 l0_0 ((rd_T42 l0_1 x8_2).f1)).f3) t270 _ A30.out).mono ?_); rintro e w45 ⟨rfl, hb⟩; refine ⟨_, rfl, ?_⟩; have n0_ := ZM (Kd.R_below (by (with_reducible repeat (first | apply ZY | apply ZX | apply ZZ)); exact (Kd.R_mono (Kd.R_far (p := ⟨gb269, 3, none⟩) (Kd.R_far (p := ⟨gb269, 2, none⟩) (Kd.R_far (p := ⟨gb269, 1, none⟩) (Kd.R_far (p := ⟨gb269, 0, none⟩) (Kd.R_types HO_6.out BK269.out (by decide)) (fun _ hk => hk.2) (.int .i64 ((rd_T40 l0_0 ((rd_T42 l0_1 x8_2).f1)).f0))) (fun _ hk => hk.2) (.int .i64 ((rd_T40 l0_0 ((rd_T42 l0_1 x8_2).f1)).f1))) (fun _ hk => hk.2) (.int .i64 ((rd_T40 l0_0 ((rd_T42 l0_1 x8_2).f1)).f2))) (fun _ hk => hk.2) (.int .i64 ((rd_T40 l0_0 ((rd_T42 l0_1 x8_2).f1)).f3))) (fun _ h_ => h_.1))) hb); have n1_ := ZM (blk_below (g := gb259) (o := .cells #[.slice (some ad260) l0_0.length c0_0, .slice (some ad266) l0_1.length c0_1] 27 (0, 0)) (by (with_reducible repeat (first | refine ZR ?_ _ | refine ZS ?_ | refine ZT ?_ _)); refine blk_far ?_ NB259_269.out _; (with_reducible repeat (first | refine ZR ?_ _ | refine ZS ?_ | refine ZT ?_ _)); refine blk_far ?_ NB259_269.out _; (with_reducible repeat (first | refine ZR ?_ _ | refine ZS ?_ | refine ZT ?_ _)); refine blk_far ?_ NB259_269.out _; (with_reducible repeat (first | refine ZR ?_ _ | refine ZS ?_ | refine ZT ?_ _)); refine blk_far ?_ NB259_269.out _; (with_reducible repeat (first | refine ZR ?_ _ | refine ZS ?_ | refine ZT ?_ _)); exact BK259.out) hb); have n2_ := ZM (blk_below (g := gb267) (o := .cells #[.int .i64 ((rd_T42 l0_1 x8_2).f0), .int .i64 ((rd_T42 l0_1 x8_2).f1), .int .i64 ((rd_T42 l0_1 x8_2).f2)] 42 (0, 0)) (by (with_reducible repeat (first | refine ZR ?_ _ | refine ZS ?_ | refine ZT ?_ _)); refine blk_far ?_ NB267_269.out _; (with_reducible repeat (first | refine ZR ?_ _ | refine ZS ?_ | refine ZT ?_ _)); refine blk_far ?_ NB267_269.out _; (with_reducible repeat (first | refine ZR ?_ _ | refine ZS ?_ | refine ZT ?_ _)); refine blk_far ?_ NB267_269.out _; (with_reducible repeat (first | refine ZR ?_ _ | refine ZS ?_ | refine ZT ?_ _)); refine blk_far ?_ NB267_269.out _; (with_reducible repeat (first | refine ZR ?_ _ | refine ZS ?_ | refine ZT ?_ _)); exact BK267.out) hb); have n3_ := ZM (blk_below (g := gb269) (o := .cells #[.int .i64 ((rd_T40 l0_0 ((rd_T42 l0_1 x8_2).f1)).f0), .int .i64 ((rd_T40 l0_0 ((rd_T42 l0_1 x8_2).f1)).f1), .int .i64 ((rd_T40 l0_0 ((rd_T42 l0_1 x8_2).f1)).f2), .int .i64 ((rd_T40 l0_0 ((rd_T42 l0_1 x8_2).f1)).f3)] 40 (0, 0)) (by (with_reducible repeat (first | refine ZR ?_ _ | refine ZS ?_ | refine ZT ?_ _)); refine blk_put (cs := #[.int .i64 ((rd_T40 l0_0 ((rd_T42 l0_1 x8_2).f1)).f0), .int .i64 ((rd_T40 l0_0 ((rd_T42 l0_1 x8_2).f1)).f1), .int .i64 ((rd_T40 l0_0 ((rd_T42 l0_1 x8_2).f1)).f2), .int .i64 0]) ?_ 3 _ rfl; (with_reducible repeat (first | refine ZR ?_ _ | refine ZS ?_ | refine ZT ?_ _)); refine blk_put (cs := #[.int .i64 ((rd_T40 l0_0 ((rd_T42 l0_1 x8_2).f1)).f0), .int .i64 ((rd_T40 l0_0 ((rd_T42 l0_1 x8_2).f1)).f1), .int .i64 0, .int .i64 0]) ?_ 2 _ rfl; (with_reducible repeat (first | refine ZR ?_ _ | refine ZS ?_ | refine ZT ?_ _)); refine blk_put (cs := #[.int .i64 ((rd_T40 l0_0 ((rd_T42 l0_1 x8_2).f1)).f0), .int .i64 0, .int .i64 0, .int .i64 0]) ?_ 1 _ rfl; (with_reducible repeat (first | refine ZR ?_ _ | refine ZS ?_ | refine ZT ?_ _)); refine blk_put (cs := #[.int .i64 0, .int .i64 0, .int .i64 0, .int .i64 0]) ?_ 0 _ rfl; (with_reducible repeat (first | refine ZR ?_ _ | refine ZS ?_ | refine ZT ?_ _)); exact BK269.out) hb); have n4_ := ZM (ZW (ZBB HB.out) hb); clear HO_6; clear BK259; clear BK267; clear BK269; clear HB; have HO_6 := n0_; have BK259 := n1_; have BK267 := n2_; have BK269 := n3_; have HB := n4_; clear n0_ n1_ n2_ n3_ n4_; (try clear hb); (try clear hb2); (try clear hk); (try clear hi); have hcz46_0 : w45.cell? ⟨gb269, 0, none⟩ = some (.int .i64 ((rd_T40 l0_0 ((rd_T42 l0_1 x8_2).f1)).f0)) := (ZG BK269.out 0).trans rfl; have hcz46_1 : w45.cell? ⟨gb269, 1, none⟩ = some (.int .i64 ((rd_T40 l0_0 ((rd_T42 l0_1 x8_2).f1)).f1)) := (ZG BK269.out 1).trans rfl; have hcz46_2 : w45.cell? ⟨gb269, 2, none⟩ = some (.int .i64 ((rd_T40 l0_0 ((rd_T42 l0_1 x8_2).f1)).f2)) := (ZG BK269.out 2).trans rfl; have hcz46_3 : w45.cell? ⟨gb269, 3, none⟩ = some (.int .i64 ((rd_T40 l0_0 ((rd_T42 l0_1 x8_2).f1)).f3)) := (ZG BK269.out 3).trans rfl; have hfz46_0 := ZF BK269.out 0; have hfz46_1 := ZF BK269.out 1; have hfz46_2 := ZF BK269.out 2; have hfz46_3 := ZF BK269.out 3))
          go_meet
          case rel => exact ⟨_, (false), (by first | rfl | (simp; done) | (simp [*]; done)), H', ⟨by have := HK1.out; have := HK2.out; first | omega | exact Nat.le_refl _⟩, ⟨ZRK HO_6.out⟩, ⟨ZBK BK259.out⟩, ⟨ZBK BK267.out⟩, ⟨ZBK BK269.out⟩, ⟨ZBB HB.out⟩⟩
       case rest =>
        clear HC20
        try clear c3
        try clear c3b0
        try clear c4
        try clear c4b0
        try clear c6
        try clear c6b0
        try clear c6b1
        try clear c7
        try clear c7b0
        try clear c7b1
        try clear c14
        try clear c14b0
        try clear c16
        try clear c16b0
        try clear c17
        try clear c17b0
        try clear c18
        try clear c18b0
        try clear c19
        try clear c19b0
        try clear c31
        try clear c31b0
        try clear c36
        try clear c36b0
        try clear c36b1
        try clear hcz11_0
        try clear hcz11_1
        try clear hcz15_0
        try clear hcz15_1
        try clear hcz21_0
        try clear hcz21_1
        try clear hcz24_0
        try clear hcz24_1
        try clear hcz24_2
        try clear hcz25_0
        try clear hcz25_1
        try clear hcz29_0
        try clear hcz29_1
        try clear hcz29_2
        try clear hcz29_3
        try clear hcz34_0
        try clear hcz34_1
        try clear hcz34_2
        try clear hcz34_3
        try clear hcz39_0
        try clear hcz39_1
        try clear hcz39_2
        try clear hcz39_3
        try clear hcz41_0
        try clear hcz41_1
        try clear hcz41_2
        try clear hcz41_3
        try clear hcz44_0
        try clear hcz44_1
        try clear hcz44_2
        try clear hcz44_3
        try clear hcz46_0
        try clear hcz46_1
        try clear hcz46_2
        try clear hcz46_3
        try clear hcz9_0
        try clear hcz9_1
        try clear hfz11_0
        try clear hfz11_1
        try clear hfz15_0
        try clear hfz15_1
        try clear hfz21_0
        try clear hfz21_1
        try clear hfz24_0
        try clear hfz24_1
        try clear hfz24_2
        try clear hfz25_0
        try clear hfz25_1
        try clear hfz29_0
        try clear hfz29_1
        try clear hfz29_2
        try clear hfz29_3
        try clear hfz34_0
        try clear hfz34_1
        try clear hfz34_2
        try clear hfz34_3
        try clear hfz39_0
        try clear hfz39_1
        try clear hfz39_2
        try clear hfz39_3
        try clear hfz41_0
        try clear hfz41_1
        try clear hfz41_2
        try clear hfz41_3
        try clear hfz44_0
        try clear hfz44_1
        try clear hfz44_2
        try clear hfz44_3
        try clear hfz46_0
        try clear hfz46_1
        try clear hfz46_2
        try clear hfz46_3
        try clear hfz9_0
        try clear hfz9_1
        try clear hx260_0
        try clear hx260_1
        try clear hx260_2
        try clear hx260_3
        try clear hx266_0
        try clear hx266_1
        try clear hx266_2
        try clear hx268_0
        try clear hx268_1
        try clear hx268_2
        try clear hx268_3
        try clear p260
        try clear p266
        try clear p268
        try clear q260
        try clear q266
        try clear q268
        obtain ⟨kq, x60_19, rfl, HA, HJ19, HO_6, BK259, BK267, BK269, HB⟩ := hcut
        cases kq with
        | zero => exact absurd HA.out (by simp [meanderref09_round.j2])
        | succ kj19 =>
         have H := HA.out
         clear HA
         simp only [meanderref09_round.j2] at H
         by_cases c47 : x60_19 = true
         ·subst c47
          have H1 : (meanderref09_round.l1 kj19 a1 t261 x6_2 x7_1 (wrap64 (x8_2 + 1)) l0_0 l0_1) = some r := by rw [if_pos rfl] at H; exact H
          clear H
          have H := H1
          clear H1
          have H' := ZM H
          clear H
          go_wp2
          go_roundg kj19
          case measure => have := HK1.out; have := HK2.out; have := HJ19.out; omega
          case rel => exact ⟨(x6_2), (wrap64 (x8_2 + 1)), (by first | rfl | (simp; done) | (simp [*]; done)), H', ⟨by have := HK1.out; have := HK2.out; have := HJ19.out; omega⟩, ⟨ZRK HO_6.out⟩, ⟨ZBK BK259.out⟩, ⟨ZBB HB.out⟩⟩
         ·replace c47 := Bool.eq_false_iff.mpr c47
          subst c47
          have H1 : (if ((rd_T42 l0_1 x8_2).f0) = a1 then (if 0 ≤ ((rd_T42 l0_1 x8_2).f1) then (if ((rd_T42 l0_1 x8_2).f1) < (x6_2.length : Int) then (meanderref09_round.l1 kj19 a1 t261 (x6_2.set (((rd_T42 l0_1 x8_2).f1) : Int).toNat true) x7_1 (wrap64 (x8_2 + 1)) l0_0 l0_1) else (none)) else (none)) else (if 0 ≤ ((rd_T42 l0_1 x8_2).f0) then (if ((rd_T42 l0_1 x8_2).f0) < (x6_2.length : Int) then (if rdOf false x6_2 ((rd_T42 l0_1 x8_2).f0) = true then (if 0 ≤ ((rd_T42 l0_1 x8_2).f1) then (if ((rd_T42 l0_1 x8_2).f1) < (x6_2.length : Int) then (meanderref09_round.l1 kj19 a1 t261 (x6_2.set (((rd_T42 l0_1 x8_2).f1) : Int).toNat true) x7_1 (wrap64 (x8_2 + 1)) l0_0 l0_1) else (none)) else (none)) else (meanderref09_round.l1 kj19 a1 t261 x6_2 x7_1 (wrap64 (x8_2 + 1)) l0_0 l0_1)) else (none)) else (none))) = some r := by rw [if_neg (show ¬ (false = true) by decide)] at H; exact H
          clear H
          have H := H1
          clear H1
          by_cases c48 : ((rd_T42 l0_1 x8_2).f0) = a1
          ·rw [if_pos c48] at H
           have c48b0 : (((rd_T42 l0_1 x8_2).f0) == a1) = true := beq_iff_eq.mpr c48
           have c48b1 : (((rd_T42 l0_1 x8_2).f0) != a1) = false := bne_eq_false_iff_eq.mpr c48
           clear c48
           by_cases c49 : 0 ≤ ((rd_T42 l0_1 x8_2).f1)
           case neg =>
            rw [if_neg c49] at H
            exact absurd H (by simp)
           rw [if_pos c49] at H
           have c49b0 : decide (0 ≤ ((rd_T42 l0_1 x8_2).f1)) = true := decide_eq_true c49
           clear c49
           by_cases c50 : ((rd_T42 l0_1 x8_2).f1) < (x6_2.length : Int)
           case neg =>
            rw [if_neg c50] at H
            exact absurd H (by simp)
           rw [if_pos c50] at H
           have c50b0 : decide (((rd_T42 l0_1 x8_2).f1) < (x6_2.length : Int)) = true := decide_eq_true c50
           clear c50
           obtain ⟨y271, hy271⟩ : ∃ y_ : List Bool, y_ = (x6_2.set (((rd_T42 l0_1 x8_2).f1) : Int).toNat true) := ⟨_, rfl⟩
           replace H : (meanderref09_round.l1 kj19 a1 t261 y271 x7_1 (wrap64 (x8_2 + 1)) l0_0 l0_1) = some r := by first | (rw [hy271]; with_reducible exact H) | (have H2_ := (Option.bind_some _ _).symm.trans H; rw [hy271]; with_reducible exact H2_) | (have H2_ := (Option.bind_some _ _).symm.trans H; with_reducible exact H2_) | with_reducible exact H | (rw [hy271]; exact H) | exact H
           have Ny271 := ZM hy271
           clear hy271
           have H' := ZM H
           clear H
           have hnb52 := NB267_259.out
           have hnc52 := NB259_267.out
           have hnb53 := NB267_269.out
           have hnc53 := NB269_267.out
           have hcz54_0 : wc.cell? ⟨gb267, 0, none⟩ = some (.int .i64 ((rd_T42 l0_1 x8_2).f0)) := (ZG BK267.out 0).trans rfl
           have hcz54_1 : wc.cell? ⟨gb267, 1, none⟩ = some (.int .i64 ((rd_T42 l0_1 x8_2).f1)) := (ZG BK267.out 1).trans rfl
           have hcz54_2 : wc.cell? ⟨gb267, 2, none⟩ = some (.int .i64 ((rd_T42 l0_1 x8_2).f2)) := (ZG BK267.out 2).trans rfl
           have hfz54_0 := ZF BK267.out 0
           have hfz54_1 := ZF BK267.out 1
           have hfz54_2 := ZF BK267.out 2
           have p51 : 0 ≤ (((rd_T42 l0_1 x8_2).f1) : Int) := ZOD
           have q51 : (((rd_T42 l0_1 x8_2).f1) : Int) < ((x6_2.length : Int) : Int) := ZOD
           obtain ⟨go51, co51, eo51, gb51, gl51, cl51, HG51⟩ := Kd.R_form HO_6.out (by omega)
           (first | cases eo51 | (injection eo51 with ea_ en_ ec_; (first | subst ea_ | (injection ea_ with ea_; subst ea_)); subst ec_; clear en_))
           have GB51 := ZM gb51
           have GG51 := ZM HG51
           clear gb51 gl51 HG51
           obtain ⟨hx51_0, hf51_0⟩ := Kd.R_celln false HO_6.out (((rd_T42 l0_1 x8_2).f1) : Int) p51 q51
           replace p51 := eq_true p51
           replace q51 := eq_true q51
           have HP55 := Kd.R_putg HO_6.out (((rd_T42 l0_1 x8_2).f1) : Int) true
           go_wp2_with (first | ((with_reducible refine gate_store (t := 4) (p := 75) rfl ?_); refine store_event (t := 4) (p := 75) (v := ?vo_w56) (w1 := (wc.setCell ⟨go51, (((rd_T42 l0_1 x8_2).f1) : Int).toNat, none⟩ (.bool true))) ?hg ?ho ?hn ?hr ?_; (case ho => rfl); (case hg => rfl); (case hn => rfl); (case hr => first | (go_simp; done) | (go_simp; rfl)); intro w56 hw; have hg : wc.grownBy w56 (some go51) := (by rw [hw]; exact HP55.2); have hp_ : Kd.R Kd.bool 4 w56 w.heap.size (fun _ => True) (.slice (some ⟨go51, 0, none⟩) x6_2.length co51) y271 := (by rw [hw, Ny271.out]; exact HP55.1); clear HP55; have n0_ := ZM (hp_); have n1_ := ZM (blk_grown (g := gb259) (o := .cells #[.slice (some ad260) l0_0.length c0_0, .slice (some ad266) l0_1.length c0_1] 27 (0, 0)) (ZBK BK259.out) hg (Kd.R_ne HO_6.out BK259.out (by decide))); have n2_ := ZM (blk_grown (g := gb267) (o := .cells #[.int .i64 ((rd_T42 l0_1 x8_2).f0), .int .i64 ((rd_T42 l0_1 x8_2).f1), .int .i64 ((rd_T42 l0_1 x8_2).f2)] 42 (0, 0)) (ZBK BK267.out) hg (Kd.R_ne HO_6.out BK267.out (by decide))); have n3_ := ZM (blk_grown (g := gb269) (o := .cells #[.int .i64 ((rd_T40 l0_0 ((rd_T42 l0_1 x8_2).f1)).f0), .int .i64 ((rd_T40 l0_0 ((rd_T42 l0_1 x8_2).f1)).f1), .int .i64 ((rd_T40 l0_0 ((rd_T42 l0_1 x8_2).f1)).f2), .int .i64 ((rd_T40 l0_0 ((rd_T42 l0_1 x8_2).f1)).f3)] 40 (0, 0)) (ZBK BK269.out) hg (Kd.R_ne HO_6.out BK269.out (by decide))); have n4_ := ZM ((by rw [hw]; exact ZQ (HB.out) GB51.out : Below w.heap.size w w56)); clear HO_6; clear BK259; clear BK267; clear BK269; clear HB; have HO_6 := n0_; have BK259 := n1_; have BK267 := n2_; have BK269 := n3_; have HB := n4_; clear n0_ n1_ n2_ n3_ n4_; clear hg hw hp_))
           go_roundg kj19
           case measure => have := HK1.out; have := HK2.out; have := HJ19.out; omega
           case rel => exact ⟨(y271), (wrap64 (x8_2 + 1)), (by first | rfl | (simp; done) | (simp [*]; done)), H', ⟨by have := HK1.out; have := HK2.out; have := HJ19.out; omega⟩, ⟨ZRK HO_6.out⟩, ⟨ZBK BK259.out⟩, ⟨ZBB HB.out⟩⟩
          ·rw [if_neg c48] at H
           have c48b0 : (((rd_T42 l0_1 x8_2).f0) == a1) = false := beq_eq_false_iff_ne.mpr c48
           have c48b1 : (((rd_T42 l0_1 x8_2).f0) != a1) = true := bne_iff_ne.mpr c48
           by_cases c57 : 0 ≤ ((rd_T42 l0_1 x8_2).f0)
           case neg =>
            rw [if_neg c57] at H
            exact absurd H (by simp)
           rw [if_pos c57] at H
           have c57b0 : decide (0 ≤ ((rd_T42 l0_1 x8_2).f0)) = true := decide_eq_true c57
           clear c57
           by_cases c58 : ((rd_T42 l0_1 x8_2).f0) < (x6_2.length : Int)
           case neg =>
            rw [if_neg c58] at H
            exact absurd H (by simp)
           rw [if_pos c58] at H
           have c58b0 : decide (((rd_T42 l0_1 x8_2).f0) < (x6_2.length : Int)) = true := decide_eq_true c58
           clear c58
           obtain ⟨bq59, hbq59⟩ : ∃ b_ : Bool, b_ = (rdOf false x6_2 ((rd_T42 l0_1 x8_2).f0)) := ⟨_, rfl⟩
           replace H : (if bq59 = true then (if 0 ≤ ((rd_T42 l0_1 x8_2).f1) then (if ((rd_T42 l0_1 x8_2).f1) < (x6_2.length : Int) then (meanderref09_round.l1 kj19 a1 t261 (x6_2.set (((rd_T42 l0_1 x8_2).f1) : Int).toNat true) x7_1 (wrap64 (x8_2 + 1)) l0_0 l0_1) else (none)) else (none)) else (meanderref09_round.l1 kj19 a1 t261 x6_2 x7_1 (wrap64 (x8_2 + 1)) l0_0 l0_1)) = some r := by rw [← hbq59] at H; exact H
           have Nbq59 := ZM hbq59
           clear hbq59
           by_cases c60 : bq59 = true
           ·subst c60
            have H1 : (if 0 ≤ ((rd_T42 l0_1 x8_2).f1) then (if ((rd_T42 l0_1 x8_2).f1) < (x6_2.length : Int) then (meanderref09_round.l1 kj19 a1 t261 (x6_2.set (((rd_T42 l0_1 x8_2).f1) : Int).toNat true) x7_1 (wrap64 (x8_2 + 1)) l0_0 l0_1) else (none)) else (none)) = some r := by rw [if_pos rfl] at H; exact H
            clear H
            have H := H1
            clear H1
            by_cases c61 : 0 ≤ ((rd_T42 l0_1 x8_2).f1)
            case neg =>
             rw [if_neg c61] at H
             exact absurd H (by simp)
            rw [if_pos c61] at H
            have c61b0 : decide (0 ≤ ((rd_T42 l0_1 x8_2).f1)) = true := decide_eq_true c61
            clear c61
            by_cases c62 : ((rd_T42 l0_1 x8_2).f1) < (x6_2.length : Int)
            case neg =>
             rw [if_neg c62] at H
             exact absurd H (by simp)
            rw [if_pos c62] at H
            have c62b0 : decide (((rd_T42 l0_1 x8_2).f1) < (x6_2.length : Int)) = true := decide_eq_true c62
            clear c62
            obtain ⟨y273, hy273⟩ : ∃ y_ : List Bool, y_ = (x6_2.set (((rd_T42 l0_1 x8_2).f1) : Int).toNat true) := ⟨_, rfl⟩
            replace H : (meanderref09_round.l1 kj19 a1 t261 y273 x7_1 (wrap64 (x8_2 + 1)) l0_0 l0_1) = some r := by first | (rw [hy273]; with_reducible exact H) | (have H2_ := (Option.bind_some _ _).symm.trans H; rw [hy273]; with_reducible exact H2_) | (have H2_ := (Option.bind_some _ _).symm.trans H; with_reducible exact H2_) | with_reducible exact H | (rw [hy273]; exact H) | exact H
            have Ny273 := ZM hy273
            clear hy273
            have H' := ZM H
            clear H
            have hnb64 := NB267_259.out
            have hnc64 := NB259_267.out
            have hnb65 := NB267_269.out
            have hnc65 := NB269_267.out
            have hcz66_0 : wc.cell? ⟨gb267, 0, none⟩ = some (.int .i64 ((rd_T42 l0_1 x8_2).f0)) := (ZG BK267.out 0).trans rfl
            have hcz66_1 : wc.cell? ⟨gb267, 1, none⟩ = some (.int .i64 ((rd_T42 l0_1 x8_2).f1)) := (ZG BK267.out 1).trans rfl
            have hcz66_2 : wc.cell? ⟨gb267, 2, none⟩ = some (.int .i64 ((rd_T42 l0_1 x8_2).f2)) := (ZG BK267.out 2).trans rfl
            have hfz66_0 := ZF BK267.out 0
            have hfz66_1 := ZF BK267.out 1
            have hfz66_2 := ZF BK267.out 2
            obtain ⟨Ao67, co67, eo67⟩ := Kd.R_slice HO_6.out
            subst eo67
            have p272 : 0 ≤ (((rd_T42 l0_1 x8_2).f0) : Int) := ZOD
            have q272 : ((rd_T42 l0_1 x8_2).f0) < (x6_2.length : Int) := ZOD
            obtain ⟨ad272, e272, hx272_0⟩ := Kd.at_bool (Kd.R_reads' HO_6.out).2.2 ((rd_T42 l0_1 x8_2).f0) p272 q272
            (try rw [← Nbq59.out] at hx272_0)
            cases e272
            replace p272 := eq_true p272
            replace q272 := eq_true q272
            have p63 : 0 ≤ (((rd_T42 l0_1 x8_2).f1) : Int) := ZOD
            have q63 : (((rd_T42 l0_1 x8_2).f1) : Int) < ((x6_2.length : Int) : Int) := ZOD
            obtain ⟨go63, co63, eo63, gb63, gl63, cl63, HG63⟩ := Kd.R_form HO_6.out (by omega)
            (first | cases eo63 | (injection eo63 with ea_ en_ ec_; (first | subst ea_ | (injection ea_ with ea_; subst ea_)); subst ec_; clear en_))
            have GB63 := ZM gb63
            have GG63 := ZM HG63
            clear gb63 gl63 HG63
            (first | simp only [add_plain] at hx272_0 | skip)
            obtain ⟨hx63_0, hf63_0⟩ := Kd.R_celln false HO_6.out (((rd_T42 l0_1 x8_2).f1) : Int) p63 q63
            replace p63 := eq_true p63
            replace q63 := eq_true q63
            have HP68 := Kd.R_putg HO_6.out (((rd_T42 l0_1 x8_2).f1) : Int) true
            go_wp2_with (first | ((with_reducible refine gate_store (t := 4) (p := 75) rfl ?_); refine store_event (t := 4) (p := 75) (v := ?vo_w69) (w1 := (wc.setCell ⟨go63, (((rd_T42 l0_1 x8_2).f1) : Int).toNat, none⟩ (.bool true))) ?hg ?ho ?hn ?hr ?_; (case ho => rfl); (case hg => rfl); (case hn => rfl); (case hr => first | (go_simp; done) | (go_simp; rfl)); intro w69 hw; have hg : wc.grownBy w69 (some go63) := (by rw [hw]; exact HP68.2); have hp_ : Kd.R Kd.bool 4 w69 w.heap.size (fun _ => True) (.slice (some ⟨go63, 0, none⟩) x6_2.length co67) y273 := (by rw [hw, Ny273.out]; exact HP68.1); clear HP68; have n0_ := ZM (hp_); have n1_ := ZM (blk_grown (g := gb259) (o := .cells #[.slice (some ad260) l0_0.length c0_0, .slice (some ad266) l0_1.length c0_1] 27 (0, 0)) (ZBK BK259.out) hg (Kd.R_ne HO_6.out BK259.out (by decide))); have n2_ := ZM (blk_grown (g := gb267) (o := .cells #[.int .i64 ((rd_T42 l0_1 x8_2).f0), .int .i64 ((rd_T42 l0_1 x8_2).f1), .int .i64 ((rd_T42 l0_1 x8_2).f2)] 42 (0, 0)) (ZBK BK267.out) hg (Kd.R_ne HO_6.out BK267.out (by decide))); have n3_ := ZM (blk_grown (g := gb269) (o := .cells #[.int .i64 ((rd_T40 l0_0 ((rd_T42 l0_1 x8_2).f1)).f0), .int .i64 ((rd_T40 l0_0 ((rd_T42 l0_1 x8_2).f1)).f1), .int .i64 ((rd_T40 l0_0 ((rd_T42 l0_1 x8_2).f1)).f2), .int .i64 ((rd_T40 l0_0 ((rd_T42 l0_1 x8_2).f1)).f3)] 40 (0, 0)) (ZBK BK269.out) hg (Kd.R_ne HO_6.out BK269.out (by decide))); have n4_ := ZM ((by rw [hw]; exact ZQ (HB.out) GB63.out : Below w.heap.size w w69)); clear HO_6; clear BK259; clear BK267; clear BK269; clear HB; have HO_6 := n0_; have BK259 := n1_; have BK267 := n2_; have BK269 := n3_; have HB := n4_; clear n0_ n1_ n2_ n3_ n4_; clear hg hw hp_))
            go_roundg kj19
            case measure => have := HK1.out; have := HK2.out; have := HJ19.out; omega
            case rel => exact ⟨(y273), (wrap64 (x8_2 + 1)), (by first | rfl | (simp; done) | (simp [*]; done)), H', ⟨by have := HK1.out; have := HK2.out; have := HJ19.out; omega⟩, ⟨ZRK HO_6.out⟩, ⟨ZBK BK259.out⟩, ⟨ZBB HB.out⟩⟩
           ·replace c60 := Bool.eq_false_iff.mpr c60
            subst c60
            have H1 : (meanderref09_round.l1 kj19 a1 t261 x6_2 x7_1 (wrap64 (x8_2 + 1)) l0_0 l0_1) = some r := by rw [if_neg (show ¬ (false = true) by decide)] at H; exact H
            clear H
            have H := H1
            clear H1
            have H' := ZM H
            clear H
            have hnb70 := NB267_259.out
            have hnc70 := NB259_267.out
            have hnb71 := NB267_269.out
            have hnc71 := NB269_267.out
            have hcz72_0 : wc.cell? ⟨gb267, 0, none⟩ = some (.int .i64 ((rd_T42 l0_1 x8_2).f0)) := (ZG BK267.out 0).trans rfl
            have hcz72_1 : wc.cell? ⟨gb267, 1, none⟩ = some (.int .i64 ((rd_T42 l0_1 x8_2).f1)) := (ZG BK267.out 1).trans rfl
            have hcz72_2 : wc.cell? ⟨gb267, 2, none⟩ = some (.int .i64 ((rd_T42 l0_1 x8_2).f2)) := (ZG BK267.out 2).trans rfl
            have hfz72_0 := ZF BK267.out 0
            have hfz72_1 := ZF BK267.out 1
            have hfz72_2 := ZF BK267.out 2
            obtain ⟨Ao73, co73, eo73⟩ := Kd.R_slice HO_6.out
            subst eo73
            have p272 : 0 ≤ (((rd_T42 l0_1 x8_2).f0) : Int) := ZOD
            have q272 : ((rd_T42 l0_1 x8_2).f0) < (x6_2.length : Int) := ZOD
            obtain ⟨ad272, e272, hx272_0⟩ := Kd.at_bool (Kd.R_reads' HO_6.out).2.2 ((rd_T42 l0_1 x8_2).f0) p272 q272
            (try rw [← Nbq59.out] at hx272_0)
            cases e272
            replace p272 := eq_true p272
            replace q272 := eq_true q272
            go_wp2
            go_roundg kj19
            case measure => have := HK1.out; have := HK2.out; have := HJ19.out; omega
            case rel => exact ⟨(x6_2), (wrap64 (x8_2 + 1)), (by first | rfl | (simp; done) | (simp [*]; done)), H', ⟨by have := HK1.out; have := HK2.out; have := HJ19.out; omega⟩, ⟨ZRK HO_6.out⟩, ⟨ZBK BK259.out⟩, ⟨ZBB HB.out⟩⟩
      ·rw [if_neg c16] at H
       have c16b0 : decide (x8_2 < (l0_1.length : Int)) = false := decide_eq_false c16
       clear c16
       have H' := ZM H
       clear H
       have hcz74_0 : wr.cell? ⟨gb259, 0, none⟩ = some (.slice (some ad260) l0_0.length c0_0) := (ZG BK259.out 0).trans rfl
       have hcz74_1 : wr.cell? ⟨gb259, 1, none⟩ = some (.slice A0_1 l0_1.length c0_1) := (ZG BK259.out 1).trans rfl
       have hfz74_0 := ZF BK259.out 0
       have hfz74_1 := ZF BK259.out 1
       go_wp2
       go_roundg k2
       case measure => have := HK1.out; have := HK2.out; omega
       case rel => exact ⟨(x6_2), (wrap64 (x7_1 + 1)), (by first | rfl | (simp; done) | (simp [*]; done)), H', ⟨by have := HK1.out; have := HK2.out; omega⟩, ⟨ZRK HO_6.out⟩, ⟨ZBK BK259.out⟩, ⟨ZBB HB.out⟩⟩
   ·rw [if_neg c14] at H
    have c14b0 : decide (x7_1 < (l0_0.length : Int)) = false := decide_eq_false c14
    clear c14
    by_cases c75 : 0 ≤ a1
    case neg =>
     rw [if_neg c75] at H
     exact absurd H (by simp)
    rw [if_pos c75] at H
    have c75b0 : decide (0 ≤ a1) = true := decide_eq_true c75
    clear c75
    by_cases c76 : a1 < (x6_1.length : Int)
    case neg =>
     rw [if_neg c76] at H
     exact absurd H (by simp)
    rw [if_pos c76] at H
    have c76b0 : decide (a1 < (x6_1.length : Int)) = true := decide_eq_true c76
    clear c76
    obtain rfl := Option.some.inj H
    have hcz77_0 : wr.cell? ⟨gb259, 0, none⟩ = some (.slice (some ad260) l0_0.length c0_0) := (ZG BK259.out 0).trans rfl
    have hcz77_1 : wr.cell? ⟨gb259, 1, none⟩ = some (.slice A0_1 l0_1.length c0_1) := (ZG BK259.out 1).trans rfl
    have hfz77_0 := ZF BK259.out 0
    have hfz77_1 := ZF BK259.out 1
    obtain ⟨Ao78, co78, eo78⟩ := Kd.R_slice HO_6.out
    subst eo78
    have p265 : 0 ≤ (a1 : Int) := ZOD
    have q265 : a1 < (x6_1.length : Int) := ZOD
    obtain ⟨ad265, e265, hx265_0⟩ := Kd.at_bool (Kd.R_reads' HO_6.out).2.2 a1 p265 q265
    cases e265
    replace p265 := eq_true p265
    replace q265 := eq_true q265
    go_wp2
    go_ret
    exact ⟨by first | rfl | (simp [errW_none, errW_some] <;> rfl) | (simp [*, errW_none, errW_some] <;> rfl), ZBB HB.out⟩
end Go.Proofs.YtbjjcolbomaodaaDoor.PLdp
