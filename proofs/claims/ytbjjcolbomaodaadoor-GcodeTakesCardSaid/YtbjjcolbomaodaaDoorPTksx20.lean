-- Laid by hprint.py of this repo: the kit's printer, and contracts by hand beside it. Not trusted: Lean checks it.
import Derived.Test.YtbjjcolbomaodaaDoorWZ
import Derived.Test.YtbjjcolbomaodaaDoorWY
import Derived.Test.YtbjjcolbomaodaaDoorPTksx0
import Derived.Test.YtbjjcolbomaodaaDoorPTksx16
namespace Go.Proofs.YtbjjcolbomaodaaDoor.PTks
open Go.RowKit Go.Proofs.YtbjjcolbomaodaaDoorW.PrintWords Go.Proofs.YtbjjcolbomaodaaDoorW.PrintLast Go.Proofs.YtbjjcolbomaodaaDoorW.PrintMore
attribute [local go_sem] max2_int min2_int max_two min_two max_three min_three max_four min_four   -- for this text's walks alone
set_option linter.unusedVariables false
set_option linter.unusedSimpArgs false

/-! ### meanderref09_low: function 48 -/
def meanderref09_low.f (a0_0 : Int) (a0_1 : Int) (a0_2 : Int) (a0_3 : Int) : Option (Int) := (meanderref08_InDepth.f a0_0 a0_1 a0_2 a0_3).bind fun t273 => (some (mn t273 a0_3))
set_option maxHeartbeats 8000000 in
set_option maxRecDepth 100000 in
theorem meanderref09_low.calls (a0_0 : Int) (a0_1 : Int) (a0_2 : Int) (a0_3 : Int) (r : Int) (w : World) (h : meanderref09_low.f a0_0 a0_1 a0_2 a0_3 = some r) :
  Calls Tryd.prog 48 #[.agg #[.int .i64 a0_0, .int .i64 a0_1, .int .i64 a0_2, .int .i64 a0_3]] w fun e w' => e = .returned (.int .i64 r) ∧ Below w.heap.size w w' := by
 have hu40 := Tryd.underlying40
 have HB := ZM (Below.refl w.heap.size w)
 have H : ((meanderref08_InDepth.f a0_0 a0_1 a0_2 a0_3).bind fun t273 => (some (mn t273 a0_3))) = some r := h
 clear h
 replace H := Option.bind_eq_some_iff.mp H
 obtain ⟨t273, A20, H⟩ := H
 replace H : (some (mn t273 a0_3)) = some r := H
 have A2 := ZM A20
 clear A20
 obtain ⟨ji3, hji3⟩ : ∃ j_ : Int, (mn t273 a0_3) = j_ := ⟨_, rfl⟩
 replace H : (some ji3) = some r := by first | (rw [hji3] at H; exact H) | (simp only [hji3] at H ⊢; exact H)
 (try rw [hji3] at A2)
 have hji3_ : (if a0_3 < t273 then a0_3 else t273) = ji3 := hji3
 obtain rfl := Option.some.inj H
 go_enter Tryd.func48, Tryd.ntmps48
 try go_wp2_with (first | ((with_reducible refine gate_dst (N := 1) rfl ?_); refine ZBX 1 (cs := #[.int .i64 a0_0, .int .i64 a0_1, .int .i64 a0_2, .int .i64 a0_3]) (t := 40) ?_; intro gb272 hg w4 hbox hb; have n0_ := ZM (ZW (ZBB HB.out) hb); have n1_ := ZM (hbox); have n2_ := ZM (ZGE hg HB.out); have n3_ := ZM (ZGE hg HB.out); clear HB; have HB := n0_; have BK272 := n1_; have GW272 := n2_; have GE272 := n3_; clear n0_ n1_ n2_ n3_; clear hb hbox hg))
 have n0_ := ZM (ZS BK272.out)
 have n1_ := ZM (ZP HB.out)
 clear BK272
 clear HB
 have BK272 := n0_
 have HB := n1_
 clear n0_ n1_
 refine start_ (n := 6) (S := fun w' => w'.cell? ⟨gb272, 0, none⟩ = some (.int .i64 a0_0) ∧ w'.cell? ⟨gb272, 1, none⟩ = some (.int .i64 a0_1) ∧ w'.cell? ⟨gb272, 2, none⟩ = some (.int .i64 a0_2) ∧ w'.cell? ⟨gb272, 3, none⟩ = some (.int .i64 a0_3)) (ds := []) #[false, false, false, false, false, false] (by kernel_rfl) rfl rfl ⟨(ZG BK272.out 0).trans rfl, (ZG BK272.out 1).trans rfl, (ZG BK272.out 2).trans rfl, (ZG BK272.out 3).trans rfl⟩ (fun hHeld => ?_)
 generalize w4.drew = w5 at BK272 HB hHeld ⊢
 refine ZPV (ZB 6 4) 2 5 ?_
 refine ZTV (ZB 6 5) hHeld 0 3 ?_
 refine ZTV (ZB 6 13) hHeld 3 6 ?_
 refine one_ (i := 1) (N := some 4) (ZB 6 15) rfl rfl (by kernel_rfl) (by decide) (fun K hK => ?_)
 refine goes_ Tryd.func45 (by kernel_rfl) rfl #[.agg #[.int .i64 a0_0, .int .i64 a0_1, .int .i64 a0_2, .int .i64 a0_3]] (by rfl) rfl rfl ZH ?_
 with_reducible refine (meanderref08_InDepth.calls a0_0 a0_1 a0_2 a0_3 t273 _ A2.out).mono ?_
 rintro e w6 ⟨rfl, hb⟩
 refine ⟨_, rfl, ?_⟩
 have n0_ := ZM (blk_below (ZBK BK272.out) hb)
 have n1_ := ZM (ZW (ZBB HB.out) hb)
 clear BK272
 clear HB
 have BK272 := n0_
 have HB := n1_
 clear n0_ n1_
 (try clear hb)
 (try clear hb2)
 (try clear hk)
 (try clear hi)
 refine hK.out _ _ ⟨(ZG BK272.out 0).trans rfl, (ZG BK272.out 1).trans rfl, (ZG BK272.out 2).trans rfl, (ZG BK272.out 3).trans rfl⟩ (fun hHeld => ?_)
 clear hK K
 refine norm_ (a' := ?_) ?_ ?_
 rotate_left
 ·show Act.put _ (some 4) _ = _
  simp only [Act.put, ZI, ZJ, ZK, i64_w, i32_w]
  rfl
 refine ZPV (ZB 6 31) 4 7 ?_
 refine ZPV (ZB 6 63) 5 2 ?_
 refine done_ (by kernel_rfl) ?_
 try go_wp2
 go_ret
 exact ⟨by first | rfl | (simp [errW_none, errW_some] <;> rfl) | (simp only [← hji3]; first | rfl | (simp [errW_none, errW_some] <;> rfl)) | (simp [*, errW_none, errW_some] <;> rfl), ZBB HB.out⟩

/-! ### meanderref09_round: function 30 -/
mutual
def meanderref09_round.l0 : Nat → Int → Int → List Bool → Int → List (S40) → List (S42) → Option (Bool)
 | 0, _, _, _, _, _, _ => none
 | k + 1, x1, x5, x6, x7, x275000, x275001 => if x7 < (x275000.length : Int) then (meanderref09_round.l1 k x1 x5 x6 x7 0 x275000 x275001) else (if 0 ≤ x1 then (if x1 < (x6.length : Int) then (some (rdOf false x6 x1)) else (none)) else (none))
def meanderref09_round.l1 : Nat → Int → Int → List Bool → Int → Int → List (S40) → List (S42) → Option (Bool)
 | 0, _, _, _, _, _, _, _ => none
 | k + 1, x1, x5, x6, x7, x8, x275000, x275001 => if x8 < (x275001.length : Int) then (if 0 ≤ x8 then (if 0 ≤ ((rd_T42 x275001 x8).f1) then (if ((rd_T42 x275001 x8).f1) < (x275000.length : Int) then ((meanderref09_low.f ((rd_T40 x275000 ((rd_T42 x275001 x8).f1)).f0) ((rd_T40 x275000 ((rd_T42 x275001 x8).f1)).f1) ((rd_T40 x275000 ((rd_T42 x275001 x8).f1)).f2) ((rd_T40 x275000 ((rd_T42 x275001 x8).f1)).f3)).bind fun t285 => (if t285 < x5 then (meanderref09_round.j2 k x1 x5 x6 x7 x8 true x275000 x275001 ((rd_T42 x275001 x8).f0) ((rd_T42 x275001 x8).f1) ((rd_T42 x275001 x8).f2)) else (if ((rd_T40 x275000 ((rd_T42 x275001 x8).f1)).f0) = 10 then (meanderref09_round.j2 k x1 x5 x6 x7 x8 (((rd_T40 x275000 ((rd_T42 x275001 x8).f1)).f3) == x5) x275000 x275001 ((rd_T42 x275001 x8).f0) ((rd_T42 x275001 x8).f1) ((rd_T42 x275001 x8).f2)) else (meanderref09_round.j2 k x1 x5 x6 x7 x8 false x275000 x275001 ((rd_T42 x275001 x8).f0) ((rd_T42 x275001 x8).f1) ((rd_T42 x275001 x8).f2))))) else (none)) else (none)) else (none)) else (meanderref09_round.l0 k x1 x5 x6 (wrap64 (x7 + 1)) x275000 x275001)
def meanderref09_round.j2 : Nat → Int → Int → List Bool → Int → Int → Bool → List (S40) → List (S42) → Int → Int → Int → Option (Bool)
 | 0, _, _, _, _, _, _, _, _, _, _, _ => none
 | k + 1, x1, x5, x6, x7, x8, x60, x275000, x275001, x283000, x283001, x283002 => if x60 = true then (meanderref09_round.l1 k x1 x5 x6 x7 (wrap64 (x8 + 1)) x275000 x275001) else (if x283000 = x1 then (if 0 ≤ x283001 then (if x283001 < (x6.length : Int) then (meanderref09_round.l1 k x1 x5 (x6.set (x283001 : Int).toNat true) x7 (wrap64 (x8 + 1)) x275000 x275001) else (none)) else (none)) else (if 0 ≤ x283000 then (if x283000 < (x6.length : Int) then (if rdOf false x6 x283000 = true then (if 0 ≤ x283001 then (if x283001 < (x6.length : Int) then (meanderref09_round.l1 k x1 x5 (x6.set (x283001 : Int).toNat true) x7 (wrap64 (x8 + 1)) x275000 x275001) else (none)) else (none)) else (meanderref09_round.l1 k x1 x5 x6 x7 (wrap64 (x8 + 1)) x275000 x275001)) else (none)) else (none)))
end
def meanderref09_round.f (k : Nat) (l0_0 : List (S40)) (l0_1 : List (S42)) (a1 : Int) : Option (Bool) := if 0 ≤ a1 then (if a1 < (l0_0.length : Int) then ((meanderref09_low.f ((rd_T40 l0_0 a1).f0) ((rd_T40 l0_0 a1).f1) ((rd_T40 l0_0 a1).f2) ((rd_T40 l0_0 a1).f3)).bind fun t276 => (if 0 ≤ (l0_0.length : Int) then (if ((l0_0.length : Int) : Int).toNat ≤ 281474976710656 then (meanderref09_round.l0 k a1 t276 (List.replicate ((l0_0.length : Int) : Int).toNat false) 0 l0_0 l0_1) else (none)) else (none))) else (none)) else (none)
theorem meanderref09_round.mono_l : ∀ k, (∀ y0 y1 y2 y3 y4 y5, LeO (meanderref09_round.l0 k y0 y1 y2 y3 y4 y5) (meanderref09_round.l0 (k + 1) y0 y1 y2 y3 y4 y5)) ∧ (∀ y0 y1 y2 y3 y4 y5 y6, LeO (meanderref09_round.l1 k y0 y1 y2 y3 y4 y5 y6) (meanderref09_round.l1 (k + 1) y0 y1 y2 y3 y4 y5 y6)) ∧ (∀ y0 y1 y2 y3 y4 y5 y6 y7 y8 y9 y10, LeO (meanderref09_round.j2 k y0 y1 y2 y3 y4 y5 y6 y7 y8 y9 y10) (meanderref09_round.j2 (k + 1) y0 y1 y2 y3 y4 y5 y6 y7 y8 y9 y10))
 | 0 => ⟨fun _ _ _ _ _ _ r h => by simp [meanderref09_round.l0] at h, fun _ _ _ _ _ _ _ r h => by simp [meanderref09_round.l1] at h, fun _ _ _ _ _ _ _ _ _ _ _ r h => by simp [meanderref09_round.j2] at h⟩
 | k + 1 => by
  obtain ⟨ih0, ih1, ih2⟩ := meanderref09_round.mono_l k
  refine ⟨?_, ?_, ?_⟩
  ·intro y0 y1 y2 y3 y4 y5
   unfold meanderref09_round.l0
   repeat' first
   | (with_reducible exact ih0 _ _ _ _ _ _)
   | (with_reducible exact ih1 _ _ _ _ _ _ _)
   | (with_reducible exact ih2 _ _ _ _ _ _ _ _ _ _ _)
   | (with_reducible exact LeO.refl _)
   | (with_reducible exact LeO.none _)
   | (with_reducible refine LeO.ite ?_ ?_)
   | (with_reducible refine LeO.bind ?_ (fun _ => ?_))
   | exact ih0 _ _ _ _ _ _
   | exact ih1 _ _ _ _ _ _ _
   | exact ih2 _ _ _ _ _ _ _ _ _ _ _
   | exact LeO.none _
   | refine LeO.ite ?_ ?_
   | refine LeO.bind ?_ (fun _ => ?_)
  ·intro y0 y1 y2 y3 y4 y5 y6
   unfold meanderref09_round.l1
   repeat' first
   | (with_reducible exact ih0 _ _ _ _ _ _)
   | (with_reducible exact ih1 _ _ _ _ _ _ _)
   | (with_reducible exact ih2 _ _ _ _ _ _ _ _ _ _ _)
   | (with_reducible exact LeO.refl _)
   | (with_reducible exact LeO.none _)
   | (with_reducible refine LeO.ite ?_ ?_)
   | (with_reducible refine LeO.bind ?_ (fun _ => ?_))
   | exact ih0 _ _ _ _ _ _
   | exact ih1 _ _ _ _ _ _ _
   | exact ih2 _ _ _ _ _ _ _ _ _ _ _
   | exact LeO.none _
   | refine LeO.ite ?_ ?_
   | refine LeO.bind ?_ (fun _ => ?_)
  ·intro y0 y1 y2 y3 y4 y5 y6 y7 y8 y9 y10
   unfold meanderref09_round.j2
   repeat' first
   | (with_reducible exact ih0 _ _ _ _ _ _)
   | (with_reducible exact ih1 _ _ _ _ _ _ _)
   | (with_reducible exact ih2 _ _ _ _ _ _ _ _ _ _ _)
   | (with_reducible exact LeO.refl _)
   | (with_reducible exact LeO.none _)
   | (with_reducible refine LeO.ite ?_ ?_)
   | (with_reducible refine LeO.bind ?_ (fun _ => ?_))
   | exact ih0 _ _ _ _ _ _
   | exact ih1 _ _ _ _ _ _ _
   | exact ih2 _ _ _ _ _ _ _ _ _ _ _
   | exact LeO.none _
   | refine LeO.ite ?_ ?_
   | refine LeO.bind ?_ (fun _ => ?_)
theorem meanderref09_round.mono : ∀ a0 a1 a2 k, LeO (meanderref09_round.f k a0 a1 a2) (meanderref09_round.f (k + 1) a0 a1 a2) := by
 intro a0 a1 a2 k
 obtain ⟨ih0, ih1, ih2⟩ := meanderref09_round.mono_l k
 unfold meanderref09_round.f
 repeat' first
   | (with_reducible exact ih0 _ _ _ _ _ _)
   | (with_reducible exact ih1 _ _ _ _ _ _ _)
   | (with_reducible exact ih2 _ _ _ _ _ _ _ _ _ _ _)
   | (with_reducible exact LeO.refl _)
   | (with_reducible exact LeO.none _)
   | (with_reducible refine LeO.ite ?_ ?_)
   | (with_reducible refine LeO.bind ?_ (fun _ => ?_))
   | exact ih0 _ _ _ _ _ _
   | exact ih1 _ _ _ _ _ _ _
   | exact ih2 _ _ _ _ _ _ _ _ _ _ _
   | exact LeO.none _
   | refine LeO.ite ?_ ?_
   | refine LeO.bind ?_ (fun _ => ?_)
set_option maxHeartbeats 8000000 in
set_option maxRecDepth 100000 in
theorem meanderref09_round.calls (k : Nat) (A0_0 : Option Addr) (c0_0 : Nat) (l0_0 : List (S40)) (A0_1 : Option Addr) (c0_1 : Nat) (l0_1 : List (S42)) (a1 : Int) (r : Bool) (w : World) (hr0_0 : Kd.C k40 w A0_0 l0_0.length l0_0) (hc0_0 : l0_0.length ≤ c0_0) (hr0_1 : Kd.C k42 w A0_1 l0_1.length l0_1) (hc0_1 : l0_1.length ≤ c0_1) (h : meanderref09_round.f k l0_0 l0_1 a1 = some r) :
  Calls Tryd.prog 30 #[.agg #[.slice A0_0 l0_0.length c0_0, .slice A0_1 l0_1.length c0_1], .int .i64 a1] w fun e w' => e = .returned (.bool r) ∧ Below w.heap.size w w' := by
 have hu27 := Tryd.underlying27
 have hu40 := Tryd.underlying40
 have hu42 := Tryd.underlying42
 have HR0_0 := ZM hr0_0
 have HC0_0 := ZM hc0_0
 clear hr0_0 hc0_0
 have HR0_1 := ZM hr0_1
 have HC0_1 := ZM hc0_1
 clear hr0_1 hc0_1
 have HB := ZM (Below.refl w.heap.size w)
 have H : (if 0 ≤ a1 then (if a1 < (l0_0.length : Int) then ((meanderref09_low.f ((rd_T40 l0_0 a1).f0) ((rd_T40 l0_0 a1).f1) ((rd_T40 l0_0 a1).f2) ((rd_T40 l0_0 a1).f3)).bind fun t276 => (if 0 ≤ (l0_0.length : Int) then (if ((l0_0.length : Int) : Int).toNat ≤ 281474976710656 then (meanderref09_round.l0 k a1 t276 (List.replicate ((l0_0.length : Int) : Int).toNat false) 0 l0_0 l0_1) else (none)) else (none))) else (none)) else (none)) = some r := h
 clear h
 by_cases c3 : 0 ≤ a1
 case neg =>
  rw [if_neg c3] at H
  exact absurd H (by simp)

 rw [if_pos c3] at H
 have c3b0 : decide (0 ≤ a1) = true := decide_eq_true c3
 clear c3
 by_cases c4 : a1 < (l0_0.length : Int)
 case neg =>
  rw [if_neg c4] at H
  exact absurd H (by simp)
 rw [if_pos c4] at H
 have c4b0 : decide (a1 < (l0_0.length : Int)) = true := decide_eq_true c4
 clear c4
 replace H := Option.bind_eq_some_iff.mp H
 obtain ⟨t276, A50, H⟩ := H
 replace H : (if 0 ≤ (l0_0.length : Int) then (if ((l0_0.length : Int) : Int).toNat ≤ 281474976710656 then (meanderref09_round.l0 k a1 t276 (List.replicate ((l0_0.length : Int) : Int).toNat false) 0 l0_0 l0_1) else (none)) else (none)) = some r := H
 have A5 := ZM A50
 clear A50
 by_cases c6 : 0 ≤ (l0_0.length : Int)
 case neg =>
  rw [if_neg c6] at H
  exact absurd H (by simp)
 rw [if_pos c6] at H
 have c6b0 := eq_true c6
 have c6b1 : decide (0 ≤ (l0_0.length : Int)) = true := decide_eq_true c6
 clear c6
 by_cases c7 : ((l0_0.length : Int) : Int).toNat ≤ 281474976710656
 case neg =>
  rw [if_neg c7] at H
  exact absurd H (by simp)
 rw [if_pos c7] at H
 have c7b0 := eq_true c7
 have c7b1 : decide (((l0_0.length : Int) : Int).toNat ≤ 281474976710656) = true := decide_eq_true c7
 clear c7
 obtain ⟨y277, hy277⟩ : ∃ y_ : List Bool, y_ = (List.replicate ((l0_0.length : Int) : Int).toNat false) := ⟨_, rfl⟩
 replace H : (meanderref09_round.l0 k a1 t276 y277 0 l0_0 l0_1) = some r := by first | (rw [hy277]; with_reducible exact H) | (have H2_ := (Option.bind_some _ _).symm.trans H; rw [hy277]; with_reducible exact H2_) | (have H2_ := (Option.bind_some _ _).symm.trans H; with_reducible exact H2_) | with_reducible exact H | (rw [hy277]; exact H) | exact H
 have Ny277 := ZM hy277
 clear hy277
 have H' := ZM H
 clear H
 go_enter Tryd.func30, Tryd.ntmps30
 go_wp2_with (first | ((with_reducible refine gate_dst (N := 2) rfl ?_); refine ZBX 2 (cs := #[.slice A0_0 l0_0.length c0_0, .slice A0_1 l0_1.length c0_1]) (t := 27) ?_; intro gb274 hg w8 hbox hb; have n0_ := ZM (ZW (ZBB HB.out) hb); have n1_ := ZM (hbox); have n2_ := ZM (ZGE hg HB.out); have n3_ := ZM (ZGE hg HB.out); clear HB; have HB := n0_; have BK274 := n1_; have GW274 := n2_; have GE274 := n3_; clear n0_ n1_ n2_ n3_; clear hb hbox hg; obtain ⟨hcz9_0, hcz9_1, hfz9_0, hfz9_1⟩ := ZC2 BK274.out; have p275 : 0 ≤ (a1 : Int) := ZOD; have q275 : a1 < (l0_0.length : Int) := ZOD; obtain ⟨ad275, e275, hx275_0, hx275_1, hx275_2, hx275_3⟩ := at_T40 HR0_0.out a1 p275 q275; cases e275; replace hx275_0 := ZHX HB.out hx275_0; replace hx275_1 := ZHX HB.out hx275_1; replace hx275_2 := ZHX HB.out hx275_2; replace hx275_3 := ZHX HB.out hx275_3; replace p275 := eq_true p275; replace q275 := eq_true q275) | ((with_reducible refine gate_callee (f := 48) rfl ?_); refine goesL_ (some 16) rfl rfl Tryd.func48 (by kernel_rfl) rfl #[.agg #[.int .i64 ((rd_T40 l0_0 a1).f0), .int .i64 ((rd_T40 l0_0 a1).f1), .int .i64 ((rd_T40 l0_0 a1).f2), .int .i64 ((rd_T40 l0_0 a1).f3)]] rfl ZH ?_; (with_reducible refine (meanderref09_low.calls ((rd_T40 l0_0 a1).f0) ((rd_T40 l0_0 a1).f1) ((rd_T40 l0_0 a1).f2) ((rd_T40 l0_0 a1).f3) t276 _ A5.out).mono ?_); rintro e w10 ⟨rfl, hb⟩; refine ⟨_, rfl, ?_⟩; have n0_ := ZM (blk_below (ZBK BK274.out) hb); have n1_ := ZM (ZW (ZBB HB.out) hb); clear BK274; clear HB; have BK274 := n0_; have HB := n1_; clear n0_ n1_; (try clear hb); (try clear hb2); (try clear hk); (try clear hi); obtain ⟨hcz11_0, hcz11_1, hfz11_0, hfz11_1⟩ := ZC2 BK274.out) | ((with_reducible refine gate_dst (N := 20) rfl ?_); refine Kd.R_make Kd.bool _ 4 rfl (N := 20) rfl 87 _ _ rfl (l0_0.length : Int) rfl rfl Tryd.underlying87 (.bool false) 1 info4 rfl (by decide) (by omega) false (ok := fun _ => True) (okp := fun _ => True) rfl (fun _ hk => hk) trivial (ZOD) (Nat.le_trans (Nat.mul_le_mul_right _ (ZOD : (l0_0.length : Int).toNat ≤ 281474976710656)) (by omega)) (Below.refl _ _) (Nat.le_refl _) ?_; intro v278 w12 ho13 hb hg_ hnew_; clear hg_ hnew_; (first | rw [← Ny277.out] at ho13 | (simp only [Int.reduceToNat] at ho13; rw [← Ny277.out] at ho13)); have n0_ := ZM (Kd.R_lower ho13 (ZV (ZBB HB.out))); have n1_ := ZM (blk_below (ZBK BK274.out) hb); have n2_ := ZM (ZW (ZBB HB.out) hb); clear BK274; clear HB; have HO279 := n0_; have BK274 := n1_; have HB := n2_; clear n0_ n1_ n2_; clear hb ho13))
 go_loopg [7] k (fun kq v7 w' => ∃ (x6_1 : List Bool) (x7_1 : Int), v7 = .int .i64 x7_1 ∧ Aside0 (meanderref09_round.l0 kq a1 t276 x6_1 x7_1 l0_0 l0_1 = some r) ∧ Aside0 (kq ≤ k) ∧ Aside0 (Kd.R Kd.bool 4 w' w.heap.size (fun _ => True) v278 x6_1) ∧ Aside0 (w'.heap[gb274]? = some (.cells #[(.slice (some ad275) l0_0.length c0_0), (.slice A0_1 l0_1.length c0_1)] 27 (0, 0))) ∧ Aside0 (Below w.heap.size w w'))
 case atStart => exact ⟨(y277), (0), ZE, H', ⟨Nat.le_refl _⟩, ⟨ZRK HO279.out⟩, ⟨ZBK BK274.out⟩, ⟨ZBB HB.out⟩⟩
 case round =>
  clear H'
  try clear c3
  try clear c3b0
  try clear c4
  try clear c4b0
  try clear c6
  try clear c6b0
  try clear c6b1
  try clear c7
  try clear c7b0
  try clear c7b1
  try clear hcz11_0
  try clear hcz11_1
  try clear hcz9_0
  try clear hcz9_1
  try clear hfz11_0
  try clear hfz11_1
  try clear hfz9_0
  try clear hfz9_1
  try clear hx275_0
  try clear hx275_1
  try clear hx275_2
  try clear hx275_3
  try clear p275
  try clear q275
  obtain ⟨x6_1, x7_1, rfl, HA, HK1, HO_6, BK274, HB⟩ := hrel
  cases gk with
  | zero => exact absurd HA.out (by simp [meanderref09_round.l0])
  | succ k1 =>
   have H := HA.out
   clear HA
   simp only [meanderref09_round.l0] at H
   by_cases c14 : x7_1 < (l0_0.length : Int)
   ·rw [if_pos c14] at H
    have c14b0 : decide (x7_1 < (l0_0.length : Int)) = true := decide_eq_true c14
    clear c14
    have H' := ZM H
    clear H
    obtain ⟨hcz15_0, hcz15_1, hfz15_0, hfz15_1⟩ := ZC2 BK274.out
    go_wp2
    go_loopg [8] k1 (fun kq v8 w' => ∃ (x6_2 : List Bool) (x8_2 : Int), v8 = .int .i64 x8_2 ∧ Aside0 (meanderref09_round.l1 kq a1 t276 x6_2 x7_1 x8_2 l0_0 l0_1 = some r) ∧ Aside0 (kq ≤ k1) ∧ Aside0 (Kd.R Kd.bool 4 w' w.heap.size (fun _ => True) v278 x6_2) ∧ Aside0 (w'.heap[gb274]? = some (.cells #[(.slice (some ad275) l0_0.length c0_0), (.slice A0_1 l0_1.length c0_1)] 27 (0, 0))) ∧ Aside0 (Below w.heap.size w w'))
    case atStart => exact ⟨(x6_1), (0), ZE, H', ⟨Nat.le_refl _⟩, ⟨ZRK HO_6.out⟩, ⟨ZBK BK274.out⟩, ⟨ZBB HB.out⟩⟩
    case round =>
     clear H'
     try clear c3
     try clear c3b0
     try clear c4
     try clear c4b0
     try clear c6
     try clear c6b0
     try clear c6b1
     try clear c7
     try clear c7b0
     try clear c7b1
     try clear c14
     try clear c14b0
     try clear hcz11_0
     try clear hcz11_1
     try clear hcz15_0
     try clear hcz15_1
     try clear hcz9_0
     try clear hcz9_1
     try clear hfz11_0
     try clear hfz11_1
     try clear hfz15_0
     try clear hfz15_1
     try clear hfz9_0
     try clear hfz9_1
     try clear hx275_0
     try clear hx275_1
     try clear hx275_2
     try clear hx275_3
     try clear p275
     try clear q275
     obtain ⟨x6_2, x8_2, rfl, HA, HK2, HO_6, BK274, HB⟩ := hrel
     cases gk with
     | zero => exact absurd HA.out (by simp [meanderref09_round.l1])
     | succ k2 =>
      have H := HA.out
      clear HA
      simp only [meanderref09_round.l1] at H
      by_cases c16 : x8_2 < (l0_1.length : Int)
      ·rw [if_pos c16] at H
       have c16b0 : decide (x8_2 < (l0_1.length : Int)) = true := decide_eq_true c16
       clear c16
       by_cases c17 : 0 ≤ x8_2
       case neg =>
        rw [if_neg c17] at H
        exact absurd H (by simp)
       rw [if_pos c17] at H
       have c17b0 : decide (0 ≤ x8_2) = true := decide_eq_true c17
       clear c17
       by_cases c18 : 0 ≤ ((rd_T42 l0_1 x8_2).f1)
       case neg =>
        rw [if_neg c18] at H
        exact absurd H (by simp)
       rw [if_pos c18] at H
       have c18b0 : decide (0 ≤ ((rd_T42 l0_1 x8_2).f1)) = true := decide_eq_true c18
       clear c18
       by_cases c19 : ((rd_T42 l0_1 x8_2).f1) < (l0_0.length : Int)
       case neg =>
        rw [if_neg c19] at H
        exact absurd H (by simp)
       rw [if_pos c19] at H
       have c19b0 : decide (((rd_T42 l0_1 x8_2).f1) < (l0_0.length : Int)) = true := decide_eq_true c19
       clear c19
       have HC20 := ZM H
       clear H
       obtain ⟨hcz21_0, hcz21_1, hfz21_0, hfz21_1⟩ := ZC2 BK274.out
       have p281 : 0 ≤ (x8_2 : Int) := ZOD
       have q281 : x8_2 < (l0_1.length : Int) := ZOD
       obtain ⟨ad281, e281, hx281_0, hx281_1, hx281_2⟩ := at_T42 HR0_1.out x8_2 p281 q281
       cases e281
       replace hx281_0 := ZHX HB.out hx281_0
       replace hx281_1 := ZHX HB.out hx281_1
       replace hx281_2 := ZHX HB.out hx281_2
       replace p281 := eq_true p281
       replace q281 := eq_true q281
       go_upto_region 11 with (first | ((with_reducible refine gate_dst (N := 9) rfl ?_); refine ZBX 9 (cs := #[.int .i64 0, .int .i64 0, .int .i64 0]) (t := 42) ?_; intro gb282 hg w22 hbox hb; have n0_ := ZM (Kd.R_below (ZRK HO_6.out) hb); have n1_ := ZM (blk_below (ZBK BK274.out) hb); have n2_ := ZM (ZW (ZBB HB.out) hb); have n3_ := ZM (hbox); have n4_ := ZM (ZGE hg HB.out); have n5_ := ZM (ZGE hg HB.out); have n6_ := ZM (ZNE hg BK274.out); have n7_ := ZM (ZNG hg BK274.out); clear HO_6; clear BK274; clear HB; have HO_6 := n0_; have BK274 := n1_; have HB := n2_; have BK282 := n3_; have GW282 := n4_; have GE282 := n5_; have NB274_282 := n6_; have NB282_274 := n7_; clear n0_ n1_ n2_ n3_ n4_ n5_ n6_ n7_; clear hb hbox hg; have hnb23 := NB282_274.out; have hnc23 := NB274_282.out; obtain ⟨hcz24_0, hcz24_1, hcz24_2, hfz24_0, hfz24_1, hfz24_2⟩ := ZC3 BK282.out; obtain ⟨hcz25_0, hcz25_1, hfz25_0, hfz25_1⟩ := ZC2 BK274.out; have p283 : 0 ≤ (((rd_T42 l0_1 x8_2).f1) : Int) := ZOD; have q283 : ((rd_T42 l0_1 x8_2).f1) < (l0_0.length : Int) := ZOD; obtain ⟨ad283, e283, hx283_0, hx283_1, hx283_2, hx283_3⟩ := at_T40 HR0_0.out ((rd_T42 l0_1 x8_2).f1) p283 q283; obtain rfl : ad275 = ad283 := (by injection e283); have hn283_0 : ad275.block ≠ gb282 := Nat.ne_of_lt (Nat.lt_of_lt_of_le (by have := ZC _ _ hx283_0; first | rwa [add_block] at this | exact this) GW282.out); have hn283_1 : ad275.block ≠ gb282 := Nat.ne_of_lt (Nat.lt_of_lt_of_le (by have := ZC _ _ hx283_0; first | rwa [add_block] at this | exact this) GW282.out); have hn283_2 : ad275.block ≠ gb282 := Nat.ne_of_lt (Nat.lt_of_lt_of_le (by have := ZC _ _ hx283_0; first | rwa [add_block] at this | exact this) GW282.out); replace hx283_0 := ZHX HB.out hx283_0; replace hx283_1 := ZHX HB.out hx283_1; replace hx283_2 := ZHX HB.out hx283_2; replace hx283_3 := ZHX HB.out hx283_3; replace hx283_0 := (cell_far (p := ⟨gb282, 0, none⟩) (by first | (rw [add_block]; exact hn283_0) | (show (Addr.add _ _).block ≠ _; rw [add_block]; exact hn283_0) | exact hn283_0) (.int .i64 ((rd_T42 l0_1 x8_2).f0))).trans hx283_0; replace hx283_1 := (cell_far (p := ⟨gb282, 0, none⟩) (by first | (rw [add_block]; exact hn283_0) | (show (Addr.add _ _).block ≠ _; rw [add_block]; exact hn283_0) | exact hn283_0) (.int .i64 ((rd_T42 l0_1 x8_2).f0))).trans hx283_1; replace hx283_2 := (cell_far (p := ⟨gb282, 0, none⟩) (by first | (rw [add_block]; exact hn283_0) | (show (Addr.add _ _).block ≠ _; rw [add_block]; exact hn283_0) | exact hn283_0) (.int .i64 ((rd_T42 l0_1 x8_2).f0))).trans hx283_2; replace hx283_3 := (cell_far (p := ⟨gb282, 0, none⟩) (by first | (rw [add_block]; exact hn283_0) | (show (Addr.add _ _).block ≠ _; rw [add_block]; exact hn283_0) | exact hn283_0) (.int .i64 ((rd_T42 l0_1 x8_2).f0))).trans hx283_3; replace hx283_0 := (cell_far (p := ⟨gb282, 1, none⟩) (by first | (rw [add_block]; exact hn283_1) | (show (Addr.add _ _).block ≠ _; rw [add_block]; exact hn283_1) | exact hn283_1) (.int .i64 ((rd_T42 l0_1 x8_2).f1))).trans hx283_0; replace hx283_1 := (cell_far (p := ⟨gb282, 1, none⟩) (by first | (rw [add_block]; exact hn283_1) | (show (Addr.add _ _).block ≠ _; rw [add_block]; exact hn283_1) | exact hn283_1) (.int .i64 ((rd_T42 l0_1 x8_2).f1))).trans hx283_1; replace hx283_2 := (cell_far (p := ⟨gb282, 1, none⟩) (by first | (rw [add_block]; exact hn283_1) | (show (Addr.add _ _).block ≠ _; rw [add_block]; exact hn283_1) | exact hn283_1) (.int .i64 ((rd_T42 l0_1 x8_2).f1))).trans hx283_2; replace hx283_3 := (cell_far (p := ⟨gb282, 1, none⟩) (by first | (rw [add_block]; exact hn283_1) | (show (Addr.add _ _).block ≠ _; rw [add_block]; exact hn283_1) | exact hn283_1) (.int .i64 ((rd_T42 l0_1 x8_2).f1))).trans hx283_3; replace hx283_0 := (cell_far (p := ⟨gb282, 2, none⟩) (by first | (rw [add_block]; exact hn283_2) | (show (Addr.add _ _).block ≠ _; rw [add_block]; exact hn283_2) | exact hn283_2) (.int .i64 ((rd_T42 l0_1 x8_2).f2))).trans hx283_0; replace hx283_1 := (cell_far (p := ⟨gb282, 2, none⟩) (by first | (rw [add_block]; exact hn283_2) | (show (Addr.add _ _).block ≠ _; rw [add_block]; exact hn283_2) | exact hn283_2) (.int .i64 ((rd_T42 l0_1 x8_2).f2))).trans hx283_1; replace hx283_2 := (cell_far (p := ⟨gb282, 2, none⟩) (by first | (rw [add_block]; exact hn283_2) | (show (Addr.add _ _).block ≠ _; rw [add_block]; exact hn283_2) | exact hn283_2) (.int .i64 ((rd_T42 l0_1 x8_2).f2))).trans hx283_2; replace hx283_3 := (cell_far (p := ⟨gb282, 2, none⟩) (by first | (rw [add_block]; exact hn283_2) | (show (Addr.add _ _).block ≠ _; rw [add_block]; exact hn283_2) | exact hn283_2) (.int .i64 ((rd_T42 l0_1 x8_2).f2))).trans hx283_3; clear hn283_0; clear hn283_1; clear hn283_2; replace p283 := eq_true p283; replace q283 := eq_true q283) | ((with_reducible refine gate_dst (N := 10) rfl ?_); refine ZBX 10 (cs := #[.int .i64 0, .int .i64 0, .int .i64 0, .int .i64 0]) (t := 40) ?_; intro gb284 hg w26 hbox hb; have n0_ := ZM (Kd.R_below (by (with_reducible repeat (first | apply ZY | apply ZX | apply ZZ)); exact (Kd.R_mono (Kd.R_far (p := ⟨gb282, 2, none⟩) (Kd.R_far (p := ⟨gb282, 1, none⟩) (Kd.R_far (p := ⟨gb282, 0, none⟩) (Kd.R_types HO_6.out BK282.out (by decide)) (fun _ hk => hk.2) (.int .i64 ((rd_T42 l0_1 x8_2).f0))) (fun _ hk => hk.2) (.int .i64 ((rd_T42 l0_1 x8_2).f1))) (fun _ hk => hk.2) (.int .i64 ((rd_T42 l0_1 x8_2).f2))) (fun _ h_ => h_.1))) hb); have n1_ := ZM (blk_below (g := gb274) (o := .cells #[.slice (some ad275) l0_0.length c0_0, .slice (some ad281) l0_1.length c0_1] 27 (0, 0)) (ZBF BK274.out NB274_282.out) hb); have n2_ := ZM (blk_below (g := gb282) (o := .cells #[.int .i64 ((rd_T42 l0_1 x8_2).f0), .int .i64 ((rd_T42 l0_1 x8_2).f1), .int .i64 ((rd_T42 l0_1 x8_2).f2)] 42 (0, 0)) (by (with_reducible repeat (first | refine ZR ?_ _ | refine ZS ?_ | refine ZT ?_ _)); refine blk_put (cs := #[.int .i64 ((rd_T42 l0_1 x8_2).f0), .int .i64 ((rd_T42 l0_1 x8_2).f1), .int .i64 0]) ?_ 2 _ rfl; (with_reducible repeat (first | refine ZR ?_ _ | refine ZS ?_ | refine ZT ?_ _)); refine blk_put (cs := #[.int .i64 ((rd_T42 l0_1 x8_2).f0), .int .i64 0, .int .i64 0]) ?_ 1 _ rfl; (with_reducible repeat (first | refine ZR ?_ _ | refine ZS ?_ | refine ZT ?_ _)); refine blk_put (cs := #[.int .i64 0, .int .i64 0, .int .i64 0]) ?_ 0 _ rfl; (with_reducible repeat (first | refine ZR ?_ _ | refine ZS ?_ | refine ZT ?_ _)); exact BK282.out) hb); have n3_ := ZM (ZW (ZBB HB.out) hb); have n4_ := ZM (hbox); have n5_ := ZM (ZGE hg HB.out); have n6_ := ZM (ZGE hg HB.out); have n7_ := ZM ((by rw [hg]; exact Nat.ne_of_lt (blk_lt (g := gb274) (o := .cells #[.slice (some ad275) l0_0.length c0_0, .slice (some ad281) l0_1.length c0_1] 27 (0, 0)) (ZBF BK274.out NB274_282.out)) : gb274 ≠ gb284)); have n8_ := ZM ((by rw [hg]; exact Nat.ne_of_gt (blk_lt (g := gb274) (o := .cells #[.slice (some ad275) l0_0.length c0_0, .slice (some ad281) l0_1.length c0_1] 27 (0, 0)) (ZBF BK274.out NB274_282.out)) : gb284 ≠ gb274)); have n9_ := ZM ((by rw [hg]; exact Nat.ne_of_lt (blk_lt (g := gb282) (o := .cells #[.int .i64 ((rd_T42 l0_1 x8_2).f0), .int .i64 ((rd_T42 l0_1 x8_2).f1), .int .i64 ((rd_T42 l0_1 x8_2).f2)] 42 (0, 0)) (by (with_reducible repeat (first | refine ZR ?_ _ | refine ZS ?_ | refine ZT ?_ _)); refine blk_put (cs := #[.int .i64 ((rd_T42 l0_1 x8_2).f0), .int .i64 ((rd_T42 l0_1 x8_2).f1), .int .i64 0]) ?_ 2 _ rfl; (with_reducible repeat (first | refine ZR ?_ _ | refine ZS ?_ | refine ZT ?_ _)); refine blk_put (cs := #[.int .i64 ((rd_T42 l0_1 x8_2).f0), .int .i64 0, .int .i64 0]) ?_ 1 _ rfl; (with_reducible repeat (first | refine ZR ?_ _ | refine ZS ?_ | refine ZT ?_ _)); refine blk_put (cs := #[.int .i64 0, .int .i64 0, .int .i64 0]) ?_ 0 _ rfl; (with_reducible repeat (first | refine ZR ?_ _ | refine ZS ?_ | refine ZT ?_ _)); exact BK282.out)) : gb282 ≠ gb284)); have n10_ := ZM ((by rw [hg]; exact Nat.ne_of_gt (blk_lt (g := gb282) (o := .cells #[.int .i64 ((rd_T42 l0_1 x8_2).f0), .int .i64 ((rd_T42 l0_1 x8_2).f1), .int .i64 ((rd_T42 l0_1 x8_2).f2)] 42 (0, 0)) (by (with_reducible repeat (first | refine ZR ?_ _ | refine ZS ?_ | refine ZT ?_ _)); refine blk_put (cs := #[.int .i64 ((rd_T42 l0_1 x8_2).f0), .int .i64 ((rd_T42 l0_1 x8_2).f1), .int .i64 0]) ?_ 2 _ rfl; (with_reducible repeat (first | refine ZR ?_ _ | refine ZS ?_ | refine ZT ?_ _)); refine blk_put (cs := #[.int .i64 ((rd_T42 l0_1 x8_2).f0), .int .i64 0, .int .i64 0]) ?_ 1 _ rfl; (with_reducible repeat (first | refine ZR ?_ _ | refine ZS ?_ | refine ZT ?_ _)); refine blk_put (cs := #[.int .i64 0, .int .i64 0, .int .i64 0]) ?_ 0 _ rfl; (with_reducible repeat (first | refine ZR ?_ _ | refine ZS ?_ | refine ZT ?_ _)); exact BK282.out)) : gb284 ≠ gb282)); clear HO_6; clear BK274; clear BK282; clear HB; have HO_6 := n0_; have BK274 := n1_; have BK282 := n2_; have HB := n3_; have BK284 := n4_; have GW284 := n5_; have GE284 := n6_; have NB274_284 := n7_; have NB284_274 := n8_; have NB282_284 := n9_; have NB284_282 := n10_; clear n0_ n1_ n2_ n3_ n4_ n5_ n6_ n7_ n8_ n9_ n10_; clear hb hbox hg; have hnb27 := NB284_274.out; have hnc27 := NB274_284.out; have hnb28 := NB284_282.out; have hnc28 := NB282_284.out; obtain ⟨hcz29_0, hcz29_1, hcz29_2, hcz29_3, hfz29_0, hfz29_1, hfz29_2, hfz29_3⟩ := ZC4 BK284.out))
       (try simp only [Act.put, ZI, ZJ, ZK])
       go_cut [60] (fun v60 wc => ∃ (kq : Nat) (x60_19 : Bool), v60 = .bool x60_19 ∧ Aside0 (meanderref09_round.j2 kq a1 t276 x6_2 x7_1 x8_2 x60_19 l0_0 l0_1 ((rd_T42 l0_1 x8_2).f0) ((rd_T42 l0_1 x8_2).f1) ((rd_T42 l0_1 x8_2).f2) = some r) ∧ Aside0 (kq ≤ k2) ∧ Aside0 (Kd.R Kd.bool 4 wc w.heap.size (fun _ => True) v278 x6_2) ∧ Aside0 (wc.heap[gb274]? = some (.cells #[(.slice (some ad275) l0_0.length c0_0), (.slice (some ad281) l0_1.length c0_1)] 27 (0, 0))) ∧ Aside0 (wc.heap[gb282]? = some (.cells #[.int .i64 ((rd_T42 l0_1 x8_2).f0), .int .i64 ((rd_T42 l0_1 x8_2).f1), .int .i64 ((rd_T42 l0_1 x8_2).f2)] 42 (0, 0))) ∧ Aside0 (wc.heap[gb284]? = some (.cells #[.int .i64 ((rd_T40 l0_0 ((rd_T42 l0_1 x8_2).f1)).f0), .int .i64 ((rd_T40 l0_0 ((rd_T42 l0_1 x8_2).f1)).f1), .int .i64 ((rd_T40 l0_0 ((rd_T42 l0_1 x8_2).f1)).f2), .int .i64 ((rd_T40 l0_0 ((rd_T42 l0_1 x8_2).f1)).f3)] 40 (0, 0))) ∧ Aside0 (Below w.heap.size w wc))
       case first =>
        have H := HC20.out
        clear HC20
        replace H := Option.bind_eq_some_iff.mp H
        obtain ⟨t285, A300, H⟩ := H
        replace H : (if t285 < t276 then (meanderref09_round.j2 k2 a1 t276 x6_2 x7_1 x8_2 true l0_0 l0_1 ((rd_T42 l0_1 x8_2).f0) ((rd_T42 l0_1 x8_2).f1) ((rd_T42 l0_1 x8_2).f2)) else (if ((rd_T40 l0_0 ((rd_T42 l0_1 x8_2).f1)).f0) = 10 then (meanderref09_round.j2 k2 a1 t276 x6_2 x7_1 x8_2 (((rd_T40 l0_0 ((rd_T42 l0_1 x8_2).f1)).f3) == t276) l0_0 l0_1 ((rd_T42 l0_1 x8_2).f0) ((rd_T42 l0_1 x8_2).f1) ((rd_T42 l0_1 x8_2).f2)) else (meanderref09_round.j2 k2 a1 t276 x6_2 x7_1 x8_2 false l0_0 l0_1 ((rd_T42 l0_1 x8_2).f0) ((rd_T42 l0_1 x8_2).f1) ((rd_T42 l0_1 x8_2).f2)))) = some r := H
        have A30 := ZM A300
        clear A300
        by_cases c31 : t285 < t276
        ·rw [if_pos c31] at H
         have c31b0 : decide (t285 < t276) = true := decide_eq_true c31
         clear c31
         (first | rw [c31b0] | (simp only [i64_w, i32_w]; rw [c31b0]) | skip)
         have H' := ZM H
         clear H
         have hnb32 := NB284_274.out
         have hnc32 := NB274_284.out
         have hnb33 := NB284_282.out
         have hnc33 := NB282_284.out
         obtain ⟨hcz34_0, hcz34_1, hcz34_2, hcz34_3, hfz34_0, hfz34_1, hfz34_2, hfz34_3⟩ := ZC4 BK284.out
         go_wp2_with (first | ((with_reducible refine gate_callee (f := 48) rfl ?_); refine goesL_ (some 47) rfl rfl Tryd.func48 (by kernel_rfl) rfl #[.agg #[.int .i64 ((rd_T40 l0_0 ((rd_T42 l0_1 x8_2).f1)).f0), .int .i64 ((rd_T40 l0_0 ((rd_T42 l0_1 x8_2).f1)).f1), .int .i64 ((rd_T40 l0_0 ((rd_T42 l0_1 x8_2).f1)).f2), .int .i64 ((rd_T40 l0_0 ((rd_T42 l0_1 x8_2).f1)).f3)]] rfl ZH ?_; (with_reducible refine (meanderref09_low.calls ((rd_T40 l0_0 ((rd_T42 l0_1 x8_2).f1)).f0) ((rd_T40 l0_0 ((rd_T42 l0_1 x8_2).f1)).f1) ((rd_T40 l0_0 ((rd_T42 l0_1 x8_2).f1)).f2) ((rd_T40 l0_0 ((rd_T42 l0_1 x8_2).f1)).f3) t285 _ A30.out).mono ?_); rintro e w35 ⟨rfl, hb⟩; refine ⟨_, rfl, ?_⟩; have n0_ := ZM (Kd.R_below (by (with_reducible repeat (first | apply ZY | apply ZX | apply ZZ)); exact (Kd.R_mono (Kd.R_far (p := ⟨gb284, 3, none⟩) (Kd.R_far (p := ⟨gb284, 2, none⟩) (Kd.R_far (p := ⟨gb284, 1, none⟩) (Kd.R_far (p := ⟨gb284, 0, none⟩) (Kd.R_types HO_6.out BK284.out (by decide)) (fun _ hk => hk.2) (.int .i64 ((rd_T40 l0_0 ((rd_T42 l0_1 x8_2).f1)).f0))) (fun _ hk => hk.2) (.int .i64 ((rd_T40 l0_0 ((rd_T42 l0_1 x8_2).f1)).f1))) (fun _ hk => hk.2) (.int .i64 ((rd_T40 l0_0 ((rd_T42 l0_1 x8_2).f1)).f2))) (fun _ hk => hk.2) (.int .i64 ((rd_T40 l0_0 ((rd_T42 l0_1 x8_2).f1)).f3))) (fun _ h_ => h_.1))) hb); have n1_ := ZM (blk_below (g := gb274) (o := .cells #[.slice (some ad275) l0_0.length c0_0, .slice (some ad281) l0_1.length c0_1] 27 (0, 0)) (ZBF BK274.out NB274_284.out) hb); have n2_ := ZM (blk_below (g := gb282) (o := .cells #[.int .i64 ((rd_T42 l0_1 x8_2).f0), .int .i64 ((rd_T42 l0_1 x8_2).f1), .int .i64 ((rd_T42 l0_1 x8_2).f2)] 42 (0, 0)) (ZBF BK282.out NB282_284.out) hb); have n3_ := ZM (blk_below (g := gb284) (o := .cells #[.int .i64 ((rd_T40 l0_0 ((rd_T42 l0_1 x8_2).f1)).f0), .int .i64 ((rd_T40 l0_0 ((rd_T42 l0_1 x8_2).f1)).f1), .int .i64 ((rd_T40 l0_0 ((rd_T42 l0_1 x8_2).f1)).f2), .int .i64 ((rd_T40 l0_0 ((rd_T42 l0_1 x8_2).f1)).f3)] 40 (0, 0)) (by (with_reducible repeat (first | refine ZR ?_ _ | refine ZS ?_ | refine ZT ?_ _)); refine blk_put (cs := #[.int .i64 ((rd_T40 l0_0 ((rd_T42 l0_1 x8_2).f1)).f0), .int .i64 ((rd_T40 l0_0 ((rd_T42 l0_1 x8_2).f1)).f1), .int .i64 ((rd_T40 l0_0 ((rd_T42 l0_1 x8_2).f1)).f2), .int .i64 0]) ?_ 3 _ rfl; (with_reducible repeat (first | refine ZR ?_ _ | refine ZS ?_ | refine ZT ?_ _)); refine blk_put (cs := #[.int .i64 ((rd_T40 l0_0 ((rd_T42 l0_1 x8_2).f1)).f0), .int .i64 ((rd_T40 l0_0 ((rd_T42 l0_1 x8_2).f1)).f1), .int .i64 0, .int .i64 0]) ?_ 2 _ rfl; (with_reducible repeat (first | refine ZR ?_ _ | refine ZS ?_ | refine ZT ?_ _)); refine blk_put (cs := #[.int .i64 ((rd_T40 l0_0 ((rd_T42 l0_1 x8_2).f1)).f0), .int .i64 0, .int .i64 0, .int .i64 0]) ?_ 1 _ rfl; (with_reducible repeat (first | refine ZR ?_ _ | refine ZS ?_ | refine ZT ?_ _)); refine blk_put (cs := #[.int .i64 0, .int .i64 0, .int .i64 0, .int .i64 0]) ?_ 0 _ rfl; (with_reducible repeat (first | refine ZR ?_ _ | refine ZS ?_ | refine ZT ?_ _)); exact BK284.out) hb); have n4_ := ZM (ZW (ZBB HB.out) hb); clear HO_6; clear BK274; clear BK282; clear BK284; clear HB; have HO_6 := n0_; have BK274 := n1_; have BK282 := n2_; have BK284 := n3_; have HB := n4_; clear n0_ n1_ n2_ n3_ n4_; (try clear hb); (try clear hb2); (try clear hk); (try clear hi)))
         go_meet
         case rel => exact ⟨_, (true), ZE, H', ⟨by have := HK1.out; have := HK2.out; first | omega | exact Nat.le_refl _⟩, ⟨ZRK HO_6.out⟩, ⟨ZBK BK274.out⟩, ⟨ZBK BK282.out⟩, ⟨ZBK BK284.out⟩, ⟨ZBB HB.out⟩⟩
        ·rw [if_neg c31] at H
         have c31b0 : decide (t285 < t276) = false := decide_eq_false c31
         clear c31
         (first | rw [c31b0] | (simp only [i64_w, i32_w]; rw [c31b0]) | skip)
         by_cases c36 : ((rd_T40 l0_0 ((rd_T42 l0_1 x8_2).f1)).f0) = 10
         ·rw [if_pos c36] at H
          have c36b0 : (((rd_T40 l0_0 ((rd_T42 l0_1 x8_2).f1)).f0) == 10) = true := beq_iff_eq.mpr c36
          have c36b1 : (((rd_T40 l0_0 ((rd_T42 l0_1 x8_2).f1)).f0) != 10) = false := bne_eq_false_iff_eq.mpr c36
          clear c36
          have H' := ZM H
          clear H
          have hnb37 := NB284_274.out
          have hnc37 := NB274_284.out
          have hnb38 := NB284_282.out
          have hnc38 := NB282_284.out
          obtain ⟨hcz39_0, hcz39_1, hcz39_2, hcz39_3, hfz39_0, hfz39_1, hfz39_2, hfz39_3⟩ := ZC4 BK284.out
          go_wp2_with (first | ((with_reducible refine gate_callee (f := 48) rfl ?_); refine goesL_ (some 47) rfl rfl Tryd.func48 (by kernel_rfl) rfl #[.agg #[.int .i64 ((rd_T40 l0_0 ((rd_T42 l0_1 x8_2).f1)).f0), .int .i64 ((rd_T40 l0_0 ((rd_T42 l0_1 x8_2).f1)).f1), .int .i64 ((rd_T40 l0_0 ((rd_T42 l0_1 x8_2).f1)).f2), .int .i64 ((rd_T40 l0_0 ((rd_T42 l0_1 x8_2).f1)).f3)]] rfl ZH ?_; (with_reducible refine (meanderref09_low.calls ((rd_T40 l0_0 ((rd_T42 l0_1 x8_2).f1)).f0) ((rd_T40 l0_0 ((rd_T42 l0_1 x8_2).f1)).f1) ((rd_T40 l0_0 ((rd_T42 l0_1 x8_2).f1)).f2) ((rd_T40 l0_0 ((rd_T42 l0_1 x8_2).f1)).f3) t285 _ A30.out).mono ?_); rintro e w40 ⟨rfl, hb⟩; refine ⟨_, rfl, ?_⟩; have n0_ := ZM (Kd.R_below (by (with_reducible repeat (first | apply ZY | apply ZX | apply ZZ)); exact (Kd.R_mono (Kd.R_far (p := ⟨gb284, 3, none⟩) (Kd.R_far (p := ⟨gb284, 2, none⟩) (Kd.R_far (p := ⟨gb284, 1, none⟩) (Kd.R_far (p := ⟨gb284, 0, none⟩) (Kd.R_types HO_6.out BK284.out (by decide)) (fun _ hk => hk.2) (.int .i64 ((rd_T40 l0_0 ((rd_T42 l0_1 x8_2).f1)).f0))) (fun _ hk => hk.2) (.int .i64 ((rd_T40 l0_0 ((rd_T42 l0_1 x8_2).f1)).f1))) (fun _ hk => hk.2) (.int .i64 ((rd_T40 l0_0 ((rd_T42 l0_1 x8_2).f1)).f2))) (fun _ hk => hk.2) (.int .i64 ((rd_T40 l0_0 ((rd_T42 l0_1 x8_2).f1)).f3))) (fun _ h_ => h_.1))) hb); have n1_ := ZM (blk_below (g := gb274) (o := .cells #[.slice (some ad275) l0_0.length c0_0, .slice (some ad281) l0_1.length c0_1] 27 (0, 0)) (ZBF BK274.out NB274_284.out) hb); have n2_ := ZM (blk_below (g := gb282) (o := .cells #[.int .i64 ((rd_T42 l0_1 x8_2).f0), .int .i64 ((rd_T42 l0_1 x8_2).f1), .int .i64 ((rd_T42 l0_1 x8_2).f2)] 42 (0, 0)) (ZBF BK282.out NB282_284.out) hb); have n3_ := ZM (blk_below (g := gb284) (o := .cells #[.int .i64 ((rd_T40 l0_0 ((rd_T42 l0_1 x8_2).f1)).f0), .int .i64 ((rd_T40 l0_0 ((rd_T42 l0_1 x8_2).f1)).f1), .int .i64 ((rd_T40 l0_0 ((rd_T42 l0_1 x8_2).f1)).f2), .int .i64 ((rd_T40 l0_0 ((rd_T42 l0_1 x8_2).f1)).f3)] 40 (0, 0)) (by (with_reducible repeat (first | refine ZR ?_ _ | refine ZS ?_ | refine ZT ?_ _)); refine blk_put (cs := #[.int .i64 ((rd_T40 l0_0 ((rd_T42 l0_1 x8_2).f1)).f0), .int .i64 ((rd_T40 l0_0 ((rd_T42 l0_1 x8_2).f1)).f1), .int .i64 ((rd_T40 l0_0 ((rd_T42 l0_1 x8_2).f1)).f2), .int .i64 0]) ?_ 3 _ rfl; (with_reducible repeat (first | refine ZR ?_ _ | refine ZS ?_ | refine ZT ?_ _)); refine blk_put (cs := #[.int .i64 ((rd_T40 l0_0 ((rd_T42 l0_1 x8_2).f1)).f0), .int .i64 ((rd_T40 l0_0 ((rd_T42 l0_1 x8_2).f1)).f1), .int .i64 0, .int .i64 0]) ?_ 2 _ rfl; (with_reducible repeat (first | refine ZR ?_ _ | refine ZS ?_ | refine ZT ?_ _)); refine blk_put (cs := #[.int .i64 ((rd_T40 l0_0 ((rd_T42 l0_1 x8_2).f1)).f0), .int .i64 0, .int .i64 0, .int .i64 0]) ?_ 1 _ rfl; (with_reducible repeat (first | refine ZR ?_ _ | refine ZS ?_ | refine ZT ?_ _)); refine blk_put (cs := #[.int .i64 0, .int .i64 0, .int .i64 0, .int .i64 0]) ?_ 0 _ rfl; (with_reducible repeat (first | refine ZR ?_ _ | refine ZS ?_ | refine ZT ?_ _)); exact BK284.out) hb); have n4_ := ZM (ZW (ZBB HB.out) hb); clear HO_6; clear BK274; clear BK282; clear BK284; clear HB; have HO_6 := n0_; have BK274 := n1_; have BK282 := n2_; have BK284 := n3_; have HB := n4_; clear n0_ n1_ n2_ n3_ n4_; (try clear hb); (try clear hb2); (try clear hk); (try clear hi); obtain ⟨hcz41_0, hcz41_1, hcz41_2, hcz41_3, hfz41_0, hfz41_1, hfz41_2, hfz41_3⟩ := ZC4 BK284.out))
          go_meet
          case rel => exact ⟨_, ((((rd_T40 l0_0 ((rd_T42 l0_1 x8_2).f1)).f3) == t276)), ZE, H', ⟨by have := HK1.out; have := HK2.out; first | omega | exact Nat.le_refl _⟩, ⟨ZRK HO_6.out⟩, ⟨ZBK BK274.out⟩, ⟨ZBK BK282.out⟩, ⟨ZBK BK284.out⟩, ⟨ZBB HB.out⟩⟩
         ·rw [if_neg c36] at H
          have c36b0 : (((rd_T40 l0_0 ((rd_T42 l0_1 x8_2).f1)).f0) == 10) = false := beq_eq_false_iff_ne.mpr c36
          have c36b1 : (((rd_T40 l0_0 ((rd_T42 l0_1 x8_2).f1)).f0) != 10) = true := bne_iff_ne.mpr c36
          have H' := ZM H
          clear H
          have hnb42 := NB284_274.out
          have hnc42 := NB274_284.out
          have hnb43 := NB284_282.out
          have hnc43 := NB282_284.out
          obtain ⟨hcz44_0, hcz44_1, hcz44_2, hcz44_3, hfz44_0, hfz44_1, hfz44_2, hfz44_3⟩ := ZC4 BK284.out
          go_wp2_with (first | ((with_reducible refine gate_callee (f := 48) rfl ?_); refine goesL_ (some 47) rfl rfl Tryd.func48 (by kernel_rfl) rfl #[.agg #[.int .i64 ((rd_T40 l0_0 ((rd_T42 l0_1 x8_2).f1)).f0), .int .i64 ((rd_T40 l0_0 ((rd_T42 l0_1 x8_2).f1)).f1), .int .i64 ((rd_T40 l0_0 ((rd_T42 l0_1 x8_2).f1)).f2), .int .i64 ((rd_T40 l0_0 ((rd_T42 l0_1 x8_2).f1)).f3)]] rfl ZH ?_; (with_reducible refine (meanderref09_low.calls ((rd_T40 l0_0 ((rd_T42 l0_1 x8_2).f1)).f0) ((rd_T40 l0_0 ((rd_T42 l0_1 x8_2).f1)).f1) ((rd_T40 l0_0 ((rd_T42 l0_1 x8_2).f1)).f2) ((rd_T40 l0_0 ((rd_T42 l0_1 x8_2).f1)).f3) t285 _ A30.out).mono ?_); rintro e w45 ⟨rfl, hb⟩; refine ⟨_, rfl, ?_⟩; have n0_ := ZM (Kd.R_below (by (with_reducible repeat (first | apply ZY | apply ZX | apply ZZ)); exact (Kd.R_mono (Kd.R_far (p := ⟨gb284, 3, none⟩) (Kd.R_far (p := ⟨gb284, 2, none⟩) (Kd.R_far (p := ⟨gb284, 1, none⟩) (Kd.R_far (p := ⟨gb284, 0, none⟩) (Kd.R_types HO_6.out BK284.out (by decide)) (fun _ hk => hk.2) (.int .i64 ((rd_T40 l0_0 ((rd_T42 l0_1 x8_2).f1)).f0))) (fun _ hk => hk.2) (.int .i64 ((rd_T40 l0_0 ((rd_T42 l0_1 x8_2).f1)).f1))) (fun _ hk => hk.2) (.int .i64 ((rd_T40 l0_0 ((rd_T42 l0_1 x8_2).f1)).f2))) (fun _ hk => hk.2) (.int .i64 ((rd_T40 l0_0 ((rd_T42 l0_1 x8_2).f1)).f3))) (fun _ h_ => h_.1))) hb); have n1_ := ZM (blk_below (g := gb274) (o := .cells #[.slice (some ad275) l0_0.length c0_0, .slice (some ad281) l0_1.length c0_1] 27 (0, 0)) (ZBF BK274.out NB274_284.out) hb); have n2_ := ZM (blk_below (g := gb282) (o := .cells #[.int .i64 ((rd_T42 l0_1 x8_2).f0), .int .i64 ((rd_T42 l0_1 x8_2).f1), .int .i64 ((rd_T42 l0_1 x8_2).f2)] 42 (0, 0)) (ZBF BK282.out NB282_284.out) hb); have n3_ := ZM (blk_below (g := gb284) (o := .cells #[.int .i64 ((rd_T40 l0_0 ((rd_T42 l0_1 x8_2).f1)).f0), .int .i64 ((rd_T40 l0_0 ((rd_T42 l0_1 x8_2).f1)).f1), .int .i64 ((rd_T40 l0_0 ((rd_T42 l0_1 x8_2).f1)).f2), .int .i64 ((rd_T40 l0_0 ((rd_T42 l0_1 x8_2).f1)).f3)] 40 (0, 0)) (by (with_reducible repeat (first | refine ZR ?_ _ | refine ZS ?_ | refine ZT ?_ _)); refine blk_put (cs := #[.int .i64 ((rd_T40 l0_0 ((rd_T42 l0_1 x8_2).f1)).f0), .int .i64 ((rd_T40 l0_0 ((rd_T42 l0_1 x8_2).f1)).f1), .int .i64 ((rd_T40 l0_0 ((rd_T42 l0_1 x8_2).f1)).f2), .int .i64 0]) ?_ 3 _ rfl; (with_reducible repeat (first | refine ZR ?_ _ | refine ZS ?_ | refine ZT ?_ _)); refine blk_put (cs := #[.int .i64 ((rd_T40 l0_0 ((rd_T42 l0_1 x8_2).f1)).f0), .int .i64 ((rd_T40 l0_0 ((rd_T42 l0_1 x8_2).f1)).f1), .int .i64 0, .int .i64 0]) ?_ 2 _ rfl; (with_reducible repeat (first | refine ZR ?_ _ | refine ZS ?_ | refine ZT ?_ _)); refine blk_put (cs := #[.int .i64 ((rd_T40 l0_0 ((rd_T42 l0_1 x8_2).f1)).f0), .int .i64 0, .int .i64 0, .int .i64 0]) ?_ 1 _ rfl; (with_reducible repeat (first | refine ZR ?_ _ | refine ZS ?_ | refine ZT ?_ _)); refine blk_put (cs := #[.int .i64 0, .int .i64 0, .int .i64 0, .int .i64 0]) ?_ 0 _ rfl; (with_reducible repeat (first | refine ZR ?_ _ | refine ZS ?_ | refine ZT ?_ _)); exact BK284.out) hb); have n4_ := ZM (ZW (ZBB HB.out) hb); clear HO_6; clear BK274; clear BK282; clear BK284; clear HB; have HO_6 := n0_; have BK274 := n1_; have BK282 := n2_; have BK284 := n3_; have HB := n4_; clear n0_ n1_ n2_ n3_ n4_; (try clear hb); (try clear hb2); (try clear hk); (try clear hi); obtain ⟨hcz46_0, hcz46_1, hcz46_2, hcz46_3, hfz46_0, hfz46_1, hfz46_2, hfz46_3⟩ := ZC4 BK284.out))
          go_meet
          case rel => exact ⟨_, (false), ZE, H', ⟨by have := HK1.out; have := HK2.out; first | omega | exact Nat.le_refl _⟩, ⟨ZRK HO_6.out⟩, ⟨ZBK BK274.out⟩, ⟨ZBK BK282.out⟩, ⟨ZBK BK284.out⟩, ⟨ZBB HB.out⟩⟩
       case rest =>
        clear HC20
        try clear c3
        try clear c3b0
        try clear c4
        try clear c4b0
        try clear c6
        try clear c6b0
        try clear c6b1
        try clear c7
        try clear c7b0
        try clear c7b1
        try clear c14
        try clear c14b0
        try clear c16
        try clear c16b0
        try clear c17
        try clear c17b0
        try clear c18
        try clear c18b0
        try clear c19
        try clear c19b0
        try clear c31
        try clear c31b0
        try clear c36
        try clear c36b0
        try clear c36b1
        try clear hcz11_0
        try clear hcz11_1
        try clear hcz15_0
        try clear hcz15_1
        try clear hcz21_0
        try clear hcz21_1
        try clear hcz24_0
        try clear hcz24_1
        try clear hcz24_2
        try clear hcz25_0
        try clear hcz25_1
        try clear hcz29_0
        try clear hcz29_1
        try clear hcz29_2
        try clear hcz29_3
        try clear hcz34_0
        try clear hcz34_1
        try clear hcz34_2
        try clear hcz34_3
        try clear hcz39_0
        try clear hcz39_1
        try clear hcz39_2
        try clear hcz39_3
        try clear hcz41_0
        try clear hcz41_1
        try clear hcz41_2
        try clear hcz41_3
        try clear hcz44_0
        try clear hcz44_1
        try clear hcz44_2
        try clear hcz44_3
        try clear hcz46_0
        try clear hcz46_1
        try clear hcz46_2
        try clear hcz46_3
        try clear hcz9_0
        try clear hcz9_1
        try clear hfz11_0
        try clear hfz11_1
        try clear hfz15_0
        try clear hfz15_1
        try clear hfz21_0
        try clear hfz21_1
        try clear hfz24_0
        try clear hfz24_1
        try clear hfz24_2
        try clear hfz25_0
        try clear hfz25_1
        try clear hfz29_0
        try clear hfz29_1
        try clear hfz29_2
        try clear hfz29_3
        try clear hfz34_0
        try clear hfz34_1
        try clear hfz34_2
        try clear hfz34_3
        try clear hfz39_0
        try clear hfz39_1
        try clear hfz39_2
        try clear hfz39_3
        try clear hfz41_0
        try clear hfz41_1
        try clear hfz41_2
        try clear hfz41_3
        try clear hfz44_0
        try clear hfz44_1
        try clear hfz44_2
        try clear hfz44_3
        try clear hfz46_0
        try clear hfz46_1
        try clear hfz46_2
        try clear hfz46_3
        try clear hfz9_0
        try clear hfz9_1
        try clear hx275_0
        try clear hx275_1
        try clear hx275_2
        try clear hx275_3
        try clear hx281_0
        try clear hx281_1
        try clear hx281_2
        try clear hx283_0
        try clear hx283_1
        try clear hx283_2
        try clear hx283_3
        try clear p275
        try clear p281
        try clear p283
        try clear q275
        try clear q281
        try clear q283
        obtain ⟨kq, x60_19, rfl, HA, HJ19, HO_6, BK274, BK282, BK284, HB⟩ := hcut
        cases kq with
        | zero => exact absurd HA.out (by simp [meanderref09_round.j2])
        | succ kj19 =>
         have H := HA.out
         clear HA
         simp only [meanderref09_round.j2] at H
         by_cases c47 : x60_19 = true
         ·subst c47
          have H1 : (meanderref09_round.l1 kj19 a1 t276 x6_2 x7_1 (wrap64 (x8_2 + 1)) l0_0 l0_1) = some r := by rw [if_pos rfl] at H; exact H
          clear H
          have H := H1
          clear H1
          have H' := ZM H
          clear H
          go_wp2
          go_roundg kj19
          case measure => have := HK1.out; have := HK2.out; have := HJ19.out; omega
          case rel => exact ⟨(x6_2), (wrap64 (x8_2 + 1)), ZE, H', ⟨by have := HK1.out; have := HK2.out; have := HJ19.out; omega⟩, ⟨ZRK HO_6.out⟩, ⟨ZBK BK274.out⟩, ⟨ZBB HB.out⟩⟩
         ·replace c47 := Bool.eq_false_iff.mpr c47
          subst c47
          have H1 : (if ((rd_T42 l0_1 x8_2).f0) = a1 then (if 0 ≤ ((rd_T42 l0_1 x8_2).f1) then (if ((rd_T42 l0_1 x8_2).f1) < (x6_2.length : Int) then (meanderref09_round.l1 kj19 a1 t276 (x6_2.set (((rd_T42 l0_1 x8_2).f1) : Int).toNat true) x7_1 (wrap64 (x8_2 + 1)) l0_0 l0_1) else (none)) else (none)) else (if 0 ≤ ((rd_T42 l0_1 x8_2).f0) then (if ((rd_T42 l0_1 x8_2).f0) < (x6_2.length : Int) then (if rdOf false x6_2 ((rd_T42 l0_1 x8_2).f0) = true then (if 0 ≤ ((rd_T42 l0_1 x8_2).f1) then (if ((rd_T42 l0_1 x8_2).f1) < (x6_2.length : Int) then (meanderref09_round.l1 kj19 a1 t276 (x6_2.set (((rd_T42 l0_1 x8_2).f1) : Int).toNat true) x7_1 (wrap64 (x8_2 + 1)) l0_0 l0_1) else (none)) else (none)) else (meanderref09_round.l1 kj19 a1 t276 x6_2 x7_1 (wrap64 (x8_2 + 1)) l0_0 l0_1)) else (none)) else (none))) = some r := by rw [if_neg (show ¬ (false = true) by decide)] at H; exact H
          clear H
          have H := H1
          clear H1
          by_cases c48 : ((rd_T42 l0_1 x8_2).f0) = a1
          ·rw [if_pos c48] at H
           have c48b0 : (((rd_T42 l0_1 x8_2).f0) == a1) = true := beq_iff_eq.mpr c48
           have c48b1 : (((rd_T42 l0_1 x8_2).f0) != a1) = false := bne_eq_false_iff_eq.mpr c48
           clear c48
           by_cases c49 : 0 ≤ ((rd_T42 l0_1 x8_2).f1)
           case neg =>
            rw [if_neg c49] at H
            exact absurd H (by simp)
           rw [if_pos c49] at H
           have c49b0 : decide (0 ≤ ((rd_T42 l0_1 x8_2).f1)) = true := decide_eq_true c49
           clear c49
           by_cases c50 : ((rd_T42 l0_1 x8_2).f1) < (x6_2.length : Int)
           case neg =>
            rw [if_neg c50] at H
            exact absurd H (by simp)
           rw [if_pos c50] at H
           have c50b0 : decide (((rd_T42 l0_1 x8_2).f1) < (x6_2.length : Int)) = true := decide_eq_true c50
           clear c50
           obtain ⟨y286, hy286⟩ : ∃ y_ : List Bool, y_ = (x6_2.set (((rd_T42 l0_1 x8_2).f1) : Int).toNat true) := ⟨_, rfl⟩
           replace H : (meanderref09_round.l1 kj19 a1 t276 y286 x7_1 (wrap64 (x8_2 + 1)) l0_0 l0_1) = some r := by first | (rw [hy286]; with_reducible exact H) | (have H2_ := (Option.bind_some _ _).symm.trans H; rw [hy286]; with_reducible exact H2_) | (have H2_ := (Option.bind_some _ _).symm.trans H; with_reducible exact H2_) | with_reducible exact H | (rw [hy286]; exact H) | exact H
           have Ny286 := ZM hy286
           clear hy286
           have H' := ZM H
           clear H
           have hnb52 := NB282_274.out
           have hnc52 := NB274_282.out
           have hnb53 := NB282_284.out
           have hnc53 := NB284_282.out
           obtain ⟨hcz54_0, hcz54_1, hcz54_2, hfz54_0, hfz54_1, hfz54_2⟩ := ZC3 BK282.out
           have p51 : 0 ≤ (((rd_T42 l0_1 x8_2).f1) : Int) := ZOD
           have q51 : (((rd_T42 l0_1 x8_2).f1) : Int) < ((x6_2.length : Int) : Int) := ZOD
           obtain ⟨go51, co51, eo51, gb51, gl51, cl51, HG51⟩ := Kd.R_form HO_6.out (by omega)
           (first | cases eo51 | (injection eo51 with ea_ en_ ec_; (first | subst ea_ | (injection ea_ with ea_; subst ea_)); subst ec_; clear en_))
           have GB51 := ZM gb51
           have GG51 := ZM HG51
           clear gb51 gl51 HG51
           obtain ⟨hx51_0, hf51_0⟩ := Kd.R_celln false HO_6.out (((rd_T42 l0_1 x8_2).f1) : Int) p51 q51
           replace p51 := eq_true p51
           replace q51 := eq_true q51
           have HP55 := Kd.R_putg HO_6.out (((rd_T42 l0_1 x8_2).f1) : Int) true
           go_wp2_with (first | ((with_reducible refine gate_store (t := 4) (p := 75) rfl ?_); refine store_event (t := 4) (p := 75) (v := ?vo_w56) (w1 := (wc.setCell ⟨go51, (((rd_T42 l0_1 x8_2).f1) : Int).toNat, none⟩ (.bool true))) ?hg ?ho ?hn ?hr ?_; (case ho => rfl); (case hg => rfl); (case hn => rfl); (case hr => first | (go_simp; done) | (go_simp; rfl)); intro w56 hw; have hg : wc.grownBy w56 (some go51) := (by rw [hw]; exact HP55.2); have hp_ : Kd.R Kd.bool 4 w56 w.heap.size (fun _ => True) (.slice (some ⟨go51, 0, none⟩) x6_2.length co51) y286 := (by rw [hw, Ny286.out]; exact HP55.1); clear HP55; have n0_ := ZM (hp_); have n1_ := ZM (blk_grown (g := gb274) (o := .cells #[.slice (some ad275) l0_0.length c0_0, .slice (some ad281) l0_1.length c0_1] 27 (0, 0)) (ZBK BK274.out) hg (Kd.R_ne HO_6.out BK274.out (by decide))); have n2_ := ZM (blk_grown (g := gb282) (o := .cells #[.int .i64 ((rd_T42 l0_1 x8_2).f0), .int .i64 ((rd_T42 l0_1 x8_2).f1), .int .i64 ((rd_T42 l0_1 x8_2).f2)] 42 (0, 0)) (ZBK BK282.out) hg (Kd.R_ne HO_6.out BK282.out (by decide))); have n3_ := ZM (blk_grown (g := gb284) (o := .cells #[.int .i64 ((rd_T40 l0_0 ((rd_T42 l0_1 x8_2).f1)).f0), .int .i64 ((rd_T40 l0_0 ((rd_T42 l0_1 x8_2).f1)).f1), .int .i64 ((rd_T40 l0_0 ((rd_T42 l0_1 x8_2).f1)).f2), .int .i64 ((rd_T40 l0_0 ((rd_T42 l0_1 x8_2).f1)).f3)] 40 (0, 0)) (ZBK BK284.out) hg (Kd.R_ne HO_6.out BK284.out (by decide))); have n4_ := ZM ((by rw [hw]; exact ZQ (HB.out) GB51.out : Below w.heap.size w w56)); clear HO_6; clear BK274; clear BK282; clear BK284; clear HB; have HO_6 := n0_; have BK274 := n1_; have BK282 := n2_; have BK284 := n3_; have HB := n4_; clear n0_ n1_ n2_ n3_ n4_; clear hg hw hp_))
           go_roundg kj19
           case measure => have := HK1.out; have := HK2.out; have := HJ19.out; omega
           case rel => exact ⟨(y286), (wrap64 (x8_2 + 1)), ZE, H', ⟨by have := HK1.out; have := HK2.out; have := HJ19.out; omega⟩, ⟨ZRK HO_6.out⟩, ⟨ZBK BK274.out⟩, ⟨ZBB HB.out⟩⟩
          ·rw [if_neg c48] at H
           have c48b0 : (((rd_T42 l0_1 x8_2).f0) == a1) = false := beq_eq_false_iff_ne.mpr c48
           have c48b1 : (((rd_T42 l0_1 x8_2).f0) != a1) = true := bne_iff_ne.mpr c48
           by_cases c57 : 0 ≤ ((rd_T42 l0_1 x8_2).f0)
           case neg =>
            rw [if_neg c57] at H
            exact absurd H (by simp)
           rw [if_pos c57] at H
           have c57b0 : decide (0 ≤ ((rd_T42 l0_1 x8_2).f0)) = true := decide_eq_true c57
           clear c57
           by_cases c58 : ((rd_T42 l0_1 x8_2).f0) < (x6_2.length : Int)
           case neg =>
            rw [if_neg c58] at H
            exact absurd H (by simp)
           rw [if_pos c58] at H
           have c58b0 : decide (((rd_T42 l0_1 x8_2).f0) < (x6_2.length : Int)) = true := decide_eq_true c58
           clear c58
           obtain ⟨bq59, hbq59⟩ : ∃ b_ : Bool, b_ = (rdOf false x6_2 ((rd_T42 l0_1 x8_2).f0)) := ⟨_, rfl⟩
           replace H : (if bq59 = true then (if 0 ≤ ((rd_T42 l0_1 x8_2).f1) then (if ((rd_T42 l0_1 x8_2).f1) < (x6_2.length : Int) then (meanderref09_round.l1 kj19 a1 t276 (x6_2.set (((rd_T42 l0_1 x8_2).f1) : Int).toNat true) x7_1 (wrap64 (x8_2 + 1)) l0_0 l0_1) else (none)) else (none)) else (meanderref09_round.l1 kj19 a1 t276 x6_2 x7_1 (wrap64 (x8_2 + 1)) l0_0 l0_1)) = some r := by rw [← hbq59] at H; exact H
           have Nbq59 := ZM hbq59
           clear hbq59
           by_cases c60 : bq59 = true
           ·subst c60
            have H1 : (if 0 ≤ ((rd_T42 l0_1 x8_2).f1) then (if ((rd_T42 l0_1 x8_2).f1) < (x6_2.length : Int) then (meanderref09_round.l1 kj19 a1 t276 (x6_2.set (((rd_T42 l0_1 x8_2).f1) : Int).toNat true) x7_1 (wrap64 (x8_2 + 1)) l0_0 l0_1) else (none)) else (none)) = some r := by rw [if_pos rfl] at H; exact H
            clear H
            have H := H1
            clear H1
            by_cases c61 : 0 ≤ ((rd_T42 l0_1 x8_2).f1)
            case neg =>
             rw [if_neg c61] at H
             exact absurd H (by simp)
            rw [if_pos c61] at H
            have c61b0 : decide (0 ≤ ((rd_T42 l0_1 x8_2).f1)) = true := decide_eq_true c61
            clear c61
            by_cases c62 : ((rd_T42 l0_1 x8_2).f1) < (x6_2.length : Int)
            case neg =>
             rw [if_neg c62] at H
             exact absurd H (by simp)
            rw [if_pos c62] at H
            have c62b0 : decide (((rd_T42 l0_1 x8_2).f1) < (x6_2.length : Int)) = true := decide_eq_true c62
            clear c62
            obtain ⟨y288, hy288⟩ : ∃ y_ : List Bool, y_ = (x6_2.set (((rd_T42 l0_1 x8_2).f1) : Int).toNat true) := ⟨_, rfl⟩
            replace H : (meanderref09_round.l1 kj19 a1 t276 y288 x7_1 (wrap64 (x8_2 + 1)) l0_0 l0_1) = some r := by first | (rw [hy288]; with_reducible exact H) | (have H2_ := (Option.bind_some _ _).symm.trans H; rw [hy288]; with_reducible exact H2_) | (have H2_ := (Option.bind_some _ _).symm.trans H; with_reducible exact H2_) | with_reducible exact H | (rw [hy288]; exact H) | exact H
            have Ny288 := ZM hy288
            clear hy288
            have H' := ZM H
            clear H
            have hnb64 := NB282_274.out
            have hnc64 := NB274_282.out
            have hnb65 := NB282_284.out
            have hnc65 := NB284_282.out
            obtain ⟨hcz66_0, hcz66_1, hcz66_2, hfz66_0, hfz66_1, hfz66_2⟩ := ZC3 BK282.out
            obtain ⟨Ao67, co67, eo67⟩ := Kd.R_slice HO_6.out
            subst eo67
            have p287 : 0 ≤ (((rd_T42 l0_1 x8_2).f0) : Int) := ZOD
            have q287 : ((rd_T42 l0_1 x8_2).f0) < (x6_2.length : Int) := ZOD
            obtain ⟨ad287, e287, hx287_0⟩ := Kd.at_bool (Kd.R_reads' HO_6.out).2.2 ((rd_T42 l0_1 x8_2).f0) p287 q287
            (try rw [← Nbq59.out] at hx287_0)
            cases e287
            replace p287 := eq_true p287
            replace q287 := eq_true q287
            have p63 : 0 ≤ (((rd_T42 l0_1 x8_2).f1) : Int) := ZOD
            have q63 : (((rd_T42 l0_1 x8_2).f1) : Int) < ((x6_2.length : Int) : Int) := ZOD
            obtain ⟨go63, co63, eo63, gb63, gl63, cl63, HG63⟩ := Kd.R_form HO_6.out (by omega)
            (first | cases eo63 | (injection eo63 with ea_ en_ ec_; (first | subst ea_ | (injection ea_ with ea_; subst ea_)); subst ec_; clear en_))
            have GB63 := ZM gb63
            have GG63 := ZM HG63
            clear gb63 gl63 HG63
            (first | simp only [add_plain] at hx287_0 | skip)
            obtain ⟨hx63_0, hf63_0⟩ := Kd.R_celln false HO_6.out (((rd_T42 l0_1 x8_2).f1) : Int) p63 q63
            replace p63 := eq_true p63
            replace q63 := eq_true q63
            have HP68 := Kd.R_putg HO_6.out (((rd_T42 l0_1 x8_2).f1) : Int) true
            go_wp2_with (first | ((with_reducible refine gate_store (t := 4) (p := 75) rfl ?_); refine store_event (t := 4) (p := 75) (v := ?vo_w69) (w1 := (wc.setCell ⟨go63, (((rd_T42 l0_1 x8_2).f1) : Int).toNat, none⟩ (.bool true))) ?hg ?ho ?hn ?hr ?_; (case ho => rfl); (case hg => rfl); (case hn => rfl); (case hr => first | (go_simp; done) | (go_simp; rfl)); intro w69 hw; have hg : wc.grownBy w69 (some go63) := (by rw [hw]; exact HP68.2); have hp_ : Kd.R Kd.bool 4 w69 w.heap.size (fun _ => True) (.slice (some ⟨go63, 0, none⟩) x6_2.length co67) y288 := (by rw [hw, Ny288.out]; exact HP68.1); clear HP68; have n0_ := ZM (hp_); have n1_ := ZM (blk_grown (g := gb274) (o := .cells #[.slice (some ad275) l0_0.length c0_0, .slice (some ad281) l0_1.length c0_1] 27 (0, 0)) (ZBK BK274.out) hg (Kd.R_ne HO_6.out BK274.out (by decide))); have n2_ := ZM (blk_grown (g := gb282) (o := .cells #[.int .i64 ((rd_T42 l0_1 x8_2).f0), .int .i64 ((rd_T42 l0_1 x8_2).f1), .int .i64 ((rd_T42 l0_1 x8_2).f2)] 42 (0, 0)) (ZBK BK282.out) hg (Kd.R_ne HO_6.out BK282.out (by decide))); have n3_ := ZM (blk_grown (g := gb284) (o := .cells #[.int .i64 ((rd_T40 l0_0 ((rd_T42 l0_1 x8_2).f1)).f0), .int .i64 ((rd_T40 l0_0 ((rd_T42 l0_1 x8_2).f1)).f1), .int .i64 ((rd_T40 l0_0 ((rd_T42 l0_1 x8_2).f1)).f2), .int .i64 ((rd_T40 l0_0 ((rd_T42 l0_1 x8_2).f1)).f3)] 40 (0, 0)) (ZBK BK284.out) hg (Kd.R_ne HO_6.out BK284.out (by decide))); have n4_ := ZM ((by rw [hw]; exact ZQ (HB.out) GB63.out : Below w.heap.size w w69)); clear HO_6; clear BK274; clear BK282; clear BK284; clear HB; have HO_6 := n0_; have BK274 := n1_; have BK282 := n2_; have BK284 := n3_; have HB := n4_; clear n0_ n1_ n2_ n3_ n4_; clear hg hw hp_))
            go_roundg kj19
            case measure => have := HK1.out; have := HK2.out; have := HJ19.out; omega
            case rel => exact ⟨(y288), (wrap64 (x8_2 + 1)), ZE, H', ⟨by have := HK1.out; have := HK2.out; have := HJ19.out; omega⟩, ⟨ZRK HO_6.out⟩, ⟨ZBK BK274.out⟩, ⟨ZBB HB.out⟩⟩
           ·replace c60 := Bool.eq_false_iff.mpr c60
            subst c60
            have H1 : (meanderref09_round.l1 kj19 a1 t276 x6_2 x7_1 (wrap64 (x8_2 + 1)) l0_0 l0_1) = some r := by rw [if_neg (show ¬ (false = true) by decide)] at H; exact H
            clear H
            have H := H1
            clear H1
            have H' := ZM H
            clear H
            have hnb70 := NB282_274.out
            have hnc70 := NB274_282.out
            have hnb71 := NB282_284.out
            have hnc71 := NB284_282.out
            obtain ⟨hcz72_0, hcz72_1, hcz72_2, hfz72_0, hfz72_1, hfz72_2⟩ := ZC3 BK282.out
            obtain ⟨Ao73, co73, eo73⟩ := Kd.R_slice HO_6.out
            subst eo73
            have p287 : 0 ≤ (((rd_T42 l0_1 x8_2).f0) : Int) := ZOD
            have q287 : ((rd_T42 l0_1 x8_2).f0) < (x6_2.length : Int) := ZOD
            obtain ⟨ad287, e287, hx287_0⟩ := Kd.at_bool (Kd.R_reads' HO_6.out).2.2 ((rd_T42 l0_1 x8_2).f0) p287 q287
            (try rw [← Nbq59.out] at hx287_0)
            cases e287
            replace p287 := eq_true p287
            replace q287 := eq_true q287
            go_wp2
            go_roundg kj19
            case measure => have := HK1.out; have := HK2.out; have := HJ19.out; omega
            case rel => exact ⟨(x6_2), (wrap64 (x8_2 + 1)), ZE, H', ⟨by have := HK1.out; have := HK2.out; have := HJ19.out; omega⟩, ⟨ZRK HO_6.out⟩, ⟨ZBK BK274.out⟩, ⟨ZBB HB.out⟩⟩
      ·rw [if_neg c16] at H
       have c16b0 : decide (x8_2 < (l0_1.length : Int)) = false := decide_eq_false c16
       clear c16
       have H' := ZM H
       clear H
       obtain ⟨hcz74_0, hcz74_1, hfz74_0, hfz74_1⟩ := ZC2 BK274.out
       go_wp2
       go_roundg k2
       case measure => have := HK1.out; have := HK2.out; omega
       case rel => exact ⟨(x6_2), (wrap64 (x7_1 + 1)), ZE, H', ⟨by have := HK1.out; have := HK2.out; omega⟩, ⟨ZRK HO_6.out⟩, ⟨ZBK BK274.out⟩, ⟨ZBB HB.out⟩⟩
   ·rw [if_neg c14] at H
    have c14b0 : decide (x7_1 < (l0_0.length : Int)) = false := decide_eq_false c14
    clear c14
    by_cases c75 : 0 ≤ a1
    case neg =>
     rw [if_neg c75] at H
     exact absurd H (by simp)
    rw [if_pos c75] at H
    have c75b0 : decide (0 ≤ a1) = true := decide_eq_true c75
    clear c75
    by_cases c76 : a1 < (x6_1.length : Int)
    case neg =>
     rw [if_neg c76] at H
     exact absurd H (by simp)
    rw [if_pos c76] at H
    have c76b0 : decide (a1 < (x6_1.length : Int)) = true := decide_eq_true c76
    clear c76
    obtain rfl := Option.some.inj H
    obtain ⟨hcz77_0, hcz77_1, hfz77_0, hfz77_1⟩ := ZC2 BK274.out
    obtain ⟨Ao78, co78, eo78⟩ := Kd.R_slice HO_6.out
    subst eo78
    have p280 : 0 ≤ (a1 : Int) := ZOD
    have q280 : a1 < (x6_1.length : Int) := ZOD
    obtain ⟨ad280, e280, hx280_0⟩ := Kd.at_bool (Kd.R_reads' HO_6.out).2.2 a1 p280 q280
    cases e280
    replace p280 := eq_true p280
    replace q280 := eq_true q280
    go_wp2
    go_ret
    exact ⟨ZEE, ZBB HB.out⟩
end Go.Proofs.YtbjjcolbomaodaaDoor.PTks
