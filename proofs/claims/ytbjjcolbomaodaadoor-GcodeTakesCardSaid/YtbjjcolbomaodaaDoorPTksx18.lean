-- Laid by hprint.py of this repo: the kit's printer, and contracts by hand beside it. Not trusted: Lean checks it.
import Derived.Test.YtbjjcolbomaodaaDoorWZ
import Derived.Test.YtbjjcolbomaodaaDoorWY
import Derived.Test.YtbjjcolbomaodaaDoorPTksx0
namespace Go.Proofs.YtbjjcolbomaodaaDoor.PTks
open Go.RowKit Go.Proofs.YtbjjcolbomaodaaDoorW.PrintWords Go.Proofs.YtbjjcolbomaodaaDoorW.PrintLast Go.Proofs.YtbjjcolbomaodaaDoorW.PrintMore
attribute [local go_sem] max2_int min2_int max_two min_two max_three min_three max_four min_four   -- for this text's walks alone
set_option linter.unusedVariables false
set_option linter.unusedSimpArgs false

/-! ### meanderref08_Prev: function 47 -/
def meanderref08_Prev.l0 : Nat → List Int → Int → List (S40) → List (S42) → Int → Int → Option (List Int)
 | 0, _, _, _, _, _, _ => none
 | k + 1, x5, x6, x243000, x243001, x244000, x244001 => if x6 < (x243001.length : Int) then (if 0 ≤ x6 then (if ((rd_T42 x243001 x6).f1) = x244000 then (if ((rd_T42 x243001 x6).f2) = x244001 then (if x5.length < 17592186044416 then (meanderref08_Prev.l0 k (x5 ++ [(rd_T42 x243001 x6).f0]) (wrap64 (x6 + 1)) x243000 x243001 x244000 x244001) else (none)) else (meanderref08_Prev.l0 k x5 (wrap64 (x6 + 1)) x243000 x243001 x244000 x244001)) else (meanderref08_Prev.l0 k x5 (wrap64 (x6 + 1)) x243000 x243001 x244000 x244001)) else (none)) else (some x5)
def meanderref08_Prev.f (k : Nat) (l0_0 : List (S40)) (l0_1 : List (S42)) (a1_0 : Int) (a1_1 : Int) : Option (List Int) := meanderref08_Prev.l0 k (([] : List Int)) 0 l0_0 l0_1 a1_0 a1_1
theorem meanderref08_Prev.mono_l : ∀ k, (∀ y0 y1 y2 y3 y4 y5, LeO (meanderref08_Prev.l0 k y0 y1 y2 y3 y4 y5) (meanderref08_Prev.l0 (k + 1) y0 y1 y2 y3 y4 y5))
 | 0 => fun _ _ _ _ _ _ r h => by simp [meanderref08_Prev.l0] at h
 | k + 1 => by
  have ih0 := meanderref08_Prev.mono_l k
  ·intro y0 y1 y2 y3 y4 y5
   unfold meanderref08_Prev.l0
   repeat' first
   | (with_reducible exact ih0 _ _ _ _ _ _)
   | (with_reducible exact LeO.refl _)
   | (with_reducible exact LeO.none _)
   | (with_reducible refine LeO.ite ?_ ?_)
   | (with_reducible refine LeO.bind ?_ (fun _ => ?_))
   | exact ih0 _ _ _ _ _ _
   | exact LeO.none _
   | refine LeO.ite ?_ ?_
   | refine LeO.bind ?_ (fun _ => ?_)
theorem meanderref08_Prev.mono : ∀ a0 a1 a2 a3 k, LeO (meanderref08_Prev.f k a0 a1 a2 a3) (meanderref08_Prev.f (k + 1) a0 a1 a2 a3) := by
 intro a0 a1 a2 a3 k
 have ih0 := meanderref08_Prev.mono_l k
 unfold meanderref08_Prev.f
 repeat' first
   | (with_reducible exact ih0 _ _ _ _ _ _)
   | (with_reducible exact LeO.refl _)
   | (with_reducible exact LeO.none _)
   | (with_reducible refine LeO.ite ?_ ?_)
   | (with_reducible refine LeO.bind ?_ (fun _ => ?_))
   | exact ih0 _ _ _ _ _ _
   | exact LeO.none _
   | refine LeO.ite ?_ ?_
   | refine LeO.bind ?_ (fun _ => ?_)
set_option maxHeartbeats 8000000 in
set_option maxRecDepth 100000 in
theorem meanderref08_Prev.calls (k : Nat) (A0_0 : Option Addr) (c0_0 : Nat) (l0_0 : List (S40)) (A0_1 : Option Addr) (c0_1 : Nat) (l0_1 : List (S42)) (a1_0 : Int) (a1_1 : Int) (r : List Int) (w : World) (hr0_0 : Kd.C k40 w A0_0 l0_0.length l0_0) (hc0_0 : l0_0.length ≤ c0_0) (hr0_1 : Kd.C k42 w A0_1 l0_1.length l0_1) (hc0_1 : l0_1.length ≤ c0_1) (h : meanderref08_Prev.f k l0_0 l0_1 a1_0 a1_1 = some r) :
  Calls Tryd.prog 47 #[.agg #[.slice A0_0 l0_0.length c0_0, .slice A0_1 l0_1.length c0_1], .agg #[.int .i64 a1_0, .int .i64 a1_1]] w fun e w' => ∃ v0_ : Value, e = .returned (v0_) ∧ Kd.R (Kd.int .i64) 3 w' w.heap.size (fun _ => True) v0_ r ∧ Below w.heap.size w w' := by
 have hu27 := Tryd.underlying27
 have hu82 := Tryd.underlying82
 have HR0_0 := ZM hr0_0
 have HC0_0 := ZM hc0_0
 clear hr0_0 hc0_0
 have HR0_1 := ZM hr0_1
 have HC0_1 := ZM hc0_1
 clear hr0_1 hc0_1
 have HB := ZM (Below.refl w.heap.size w)
 have H : (meanderref08_Prev.l0 k (([] : List Int)) 0 l0_0 l0_1 a1_0 a1_1) = some r := h
 clear h
 obtain ⟨y244, hy244⟩ : ∃ y_ : List Int, y_ = (([] : List Int)) := ⟨_, rfl⟩
 replace H : (meanderref08_Prev.l0 k y244 0 l0_0 l0_1 a1_0 a1_1) = some r := by first | (rw [hy244]; with_reducible exact H) | (have H2_ := (Option.bind_some _ _).symm.trans H; rw [hy244]; with_reducible exact H2_) | (have H2_ := (Option.bind_some _ _).symm.trans H; with_reducible exact H2_) | with_reducible exact H | (rw [hy244]; exact H) | exact H
 have Ny244 := ZM hy244
 clear hy244
 have H' := ZM H
 clear H
 go_enter Tryd.func47, Tryd.ntmps47
 go_wp2_with (first | ((with_reducible refine gate_dst (N := 2) rfl ?_); refine ZBX 2 (cs := #[.slice A0_0 l0_0.length c0_0, .slice A0_1 l0_1.length c0_1]) (t := 27) ?_; intro gb242 hg w3 hbox hb; have n0_ := ZM (ZW (ZBB HB.out) hb); have n1_ := ZM (hbox); have n2_ := ZM (ZGE hg HB.out); have n3_ := ZM (ZGE hg HB.out); clear HB; have HB := n0_; have BK242 := n1_; have GW242 := n2_; have GE242 := n3_; clear n0_ n1_ n2_ n3_; clear hb hbox hg) | ((with_reducible refine gate_dst (N := 3) rfl ?_); refine ZBX 3 (cs := #[.int .i64 a1_0, .int .i64 a1_1]) (t := 82) ?_; intro gb243 hg w4 hbox hb; have n0_ := ZM (blk_below (ZBK BK242.out) hb); have n1_ := ZM (ZW (ZBB HB.out) hb); have n2_ := ZM (hbox); have n3_ := ZM (ZGE hg HB.out); have n4_ := ZM (ZGE hg HB.out); have n5_ := ZM (ZNE hg BK242.out); have n6_ := ZM (ZNG hg BK242.out); clear BK242; clear HB; have BK242 := n0_; have HB := n1_; have BK243 := n2_; have GW243 := n3_; have GE243 := n4_; have NB242_243 := n5_; have NB243_242 := n6_; clear n0_ n1_ n2_ n3_ n4_ n5_ n6_; clear hb hbox hg) | ((with_reducible refine gate_dst (N := 7) rfl ?_); refine Kd.R_lit (Kd.int .i64) _ 3 ?hg (N := 7) ?hd (xs := ([] : List Int)) (inner := []) (ok := fun _ => True) (okp := fun _ => True) ?hr ?hp (fun _ hk => hk) trivial (Below.refl _ _) (Nat.le_refl _) (by simp) ?_; (case hd => rfl); (case hg => rfl); (case hr => first | (go_simp; done) | (go_simp; rfl)); (case hp => exact (Reps.none _ _)); intro v245 w5 ho6 hb hg_ hnew_; clear hg_ hnew_; (first | rw [← Ny244.out] at ho6 | (simp only [Int.reduceToNat] at ho6; rw [← Ny244.out] at ho6)); have n0_ := ZM (Kd.R_lower ho6 (ZV (ZBB HB.out))); have n1_ := ZM (blk_below (ZBK BK242.out) hb); have n2_ := ZM (blk_below (ZBK BK243.out) hb); have n3_ := ZM (ZW (ZBB HB.out) hb); clear BK242; clear BK243; clear HB; have HO246 := n0_; have BK242 := n1_; have BK243 := n2_; have HB := n3_; clear n0_ n1_ n2_ n3_; clear hb ho6))
 repeat (go_quiet (fail); try go_wp2_with (fail))
 go_loopg [5, 6] k (fun kq v5 v6 w' => ∃ (x5_1 : List Int) (x6_1 : Int), v6 = .int .i64 x6_1 ∧ Aside0 (meanderref08_Prev.l0 kq x5_1 x6_1 l0_0 l0_1 a1_0 a1_1 = some r) ∧ Aside0 (kq ≤ k) ∧ Aside0 (Kd.R (Kd.int .i64) 3 w' w.heap.size (fun _ => True) v5 x5_1) ∧ Aside0 (w'.heap[gb242]? = some (.cells #[(.slice A0_0 l0_0.length c0_0), (.slice A0_1 l0_1.length c0_1)] 27 (0, 0))) ∧ Aside0 (w'.heap[gb243]? = some (.cells #[.int .i64 a1_0, .int .i64 a1_1] 82 (0, 0))) ∧ Aside0 (Below w.heap.size w w'))
 case atStart => exact ⟨(y244), (0), ZE, H', ⟨Nat.le_refl _⟩, ⟨ZRK HO246.out⟩, ⟨ZBK BK242.out⟩, ⟨ZBK BK243.out⟩, ⟨ZBB HB.out⟩⟩
 case round =>
  clear H'
  obtain ⟨x5_1, x6_1, rfl, HA, HK1, HO_5, BK242, BK243, HB⟩ := hrel
  cases gk with
  | zero => exact absurd HA.out (by simp [meanderref08_Prev.l0])
  | succ k1 =>
   have H := HA.out
   clear HA
   simp only [meanderref08_Prev.l0] at H
   by_cases c7 : x6_1 < (l0_1.length : Int)
   ·rw [if_pos c7] at H
    have c7b0 : decide (x6_1 < (l0_1.length : Int)) = true := decide_eq_true c7
    clear c7
    by_cases c8 : 0 ≤ x6_1
    case neg =>
     rw [if_neg c8] at H
     exact absurd H (by simp)
    rw [if_pos c8] at H
    have c8b0 : decide (0 ≤ x6_1) = true := decide_eq_true c8
    clear c8
    by_cases c9 : ((rd_T42 l0_1 x6_1).f1) = a1_0
    ·rw [if_pos c9] at H
     have c9b0 : (((rd_T42 l0_1 x6_1).f1) == a1_0) = true := beq_iff_eq.mpr c9
     have c9b1 : (((rd_T42 l0_1 x6_1).f1) != a1_0) = false := bne_eq_false_iff_eq.mpr c9
     clear c9
     by_cases c10 : ((rd_T42 l0_1 x6_1).f2) = a1_1
     ·rw [if_pos c10] at H
      have c10b0 : (((rd_T42 l0_1 x6_1).f2) == a1_1) = true := beq_iff_eq.mpr c10
      have c10b1 : (((rd_T42 l0_1 x6_1).f2) != a1_1) = false := bne_eq_false_iff_eq.mpr c10
      clear c10
      by_cases c11 : x5_1.length < 17592186044416
      case neg =>
       rw [if_neg c11] at H
       exact absurd H (by simp)
      rw [if_pos c11] at H
      have LMc11 := ZM c11
      clear c11
      obtain ⟨y250, hy250⟩ : ∃ y_ : List Int, y_ = (x5_1 ++ [(rd_T42 l0_1 x6_1).f0]) := ⟨_, rfl⟩
      replace H : (meanderref08_Prev.l0 k1 y250 (wrap64 (x6_1 + 1)) l0_0 l0_1 a1_0 a1_1) = some r := by first | (rw [hy250]; with_reducible exact H) | (have H2_ := (Option.bind_some _ _).symm.trans H; rw [hy250]; with_reducible exact H2_) | (have H2_ := (Option.bind_some _ _).symm.trans H; with_reducible exact H2_) | with_reducible exact H | (rw [hy250]; exact H) | exact H
      have Ny250 := ZM hy250
      clear hy250
      have H' := ZM H
      clear H
      have hnb12 := NB242_243.out
      have hnc12 := NB243_242.out
      obtain ⟨hcz13_0, hcz13_1, hfz13_0, hfz13_1⟩ := ZC2 BK242.out
      have p247 : 0 ≤ (x6_1 : Int) := ZOD
      have q247 : x6_1 < (l0_1.length : Int) := ZOD
      obtain ⟨ad247, e247, hx247_0, hx247_1, hx247_2⟩ := at_T42 HR0_1.out x6_1 p247 q247
      cases e247
      replace hx247_0 := ZHX HB.out hx247_0
      replace hx247_1 := ZHX HB.out hx247_1
      replace hx247_2 := ZHX HB.out hx247_2
      replace p247 := eq_true p247
      replace q247 := eq_true q247
      obtain ⟨hcz14_0, hcz14_1, hfz14_0, hfz14_1⟩ := ZC2 BK243.out
      have p248 : 0 ≤ (x6_1 : Int) := ZOD
      have q248 : x6_1 < (l0_1.length : Int) := ZOD
      obtain ⟨ad248, e248, hx248_0, hx248_1, hx248_2⟩ := at_T42 HR0_1.out x6_1 p248 q248
      obtain rfl : ad247 = ad248 := (by injection e248)
      replace hx248_0 := ZHX HB.out hx248_0
      replace hx248_1 := ZHX HB.out hx248_1
      replace hx248_2 := ZHX HB.out hx248_2
      replace p248 := eq_true p248
      replace q248 := eq_true q248
      have p249 : 0 ≤ (x6_1 : Int) := ZOD
      have q249 : x6_1 < (l0_1.length : Int) := ZOD
      obtain ⟨ad249, e249, hx249_0, hx249_1, hx249_2⟩ := at_T42 HR0_1.out x6_1 p249 q249
      obtain rfl : ad247 = ad249 := (by injection e249)
      replace hx249_0 := ZHX HB.out hx249_0
      replace hx249_1 := ZHX HB.out hx249_1
      replace hx249_2 := ZHX HB.out hx249_2
      replace p249 := eq_true p249
      replace q249 := eq_true q249
      go_wp2_with (first | ((with_reducible refine gate_builtin (b := .append) (xs := #[.tmp 35, .tmp 42]) rfl ?_); at_builtin; refine Kd.R_append (Kd.int .i64) (w0 := w) w.heap.size rfl (.tmp 35) (.tmp 42) 61 3 (.int .i64 0) 8 rfl Tryd.underlying61 info3 rfl (by decide) (by omega) u5 x5_1 ((rd_T42 l0_1 x6_1).f0) [.int .i64 ((rd_T42 l0_1 x6_1).f0)] (fun _ => True) (fun _ => False) rfl rfl ?aP (fun _ hk => hk.elim) ?aF ?aO ?aB ?aS ?aL ?_; (case aP => exact rfl); (case aB => exact (ZBB HB.out)); (case aF => exact (fun _ _ => trivial)); (case aO => exact (ZRK HO_5.out)); (case aS => exact (ZV (ZBB HB.out))); (case aL => have := LMc11.out; omega); intro v251 w15 ho hb hg hat; rw [← Ny250.out] at ho; have n0_ := ZM (blk_grown (g := gb242) (o := .cells #[.slice A0_0 l0_0.length c0_0, .slice (some ad247) l0_1.length c0_1] 27 (0, 0)) (ZBK BK242.out) hg (Kd.R_ne HO_5.out BK242.out (by decide))); have n1_ := ZM (blk_grown (g := gb243) (o := .cells #[.int .i64 a1_0, .int .i64 a1_1] 82 (0, 0)) (ZBK BK243.out) hg (Kd.R_ne HO_5.out BK243.out (by decide))); have n2_ := ZM (hb); have n3_ := ZM (ho); clear BK242; clear BK243; clear HB; clear HO_5; have BK242 := n0_; have BK243 := n1_; have HB := n2_; have HO252 := n3_; clear n0_ n1_ n2_ n3_; clear ho hb hg hat))
      repeat (go_quiet (first | ((with_reducible refine gate_builtin (b := .append) (xs := #[.tmp 35, .tmp 42]) rfl ?_); at_builtin; refine Kd.R_append (Kd.int .i64) (w0 := w) w.heap.size rfl (.tmp 35) (.tmp 42) 61 3 (.int .i64 0) 8 rfl Tryd.underlying61 info3 rfl (by decide) (by omega) u5 x5_1 ((rd_T42 l0_1 x6_1).f0) [.int .i64 ((rd_T42 l0_1 x6_1).f0)] (fun _ => True) (fun _ => False) rfl rfl ?aP (fun _ hk => hk.elim) ?aF ?aO ?aB ?aS ?aL ?_; (case aP => exact rfl); (case aB => exact (ZBB HB.out)); (case aF => exact (fun _ _ => trivial)); (case aO => exact (ZRK HO_5.out)); (case aS => exact (ZV (ZBB HB.out))); (case aL => have := LMc11.out; omega); intro v251 w15 ho hb hg hat; rw [← Ny250.out] at ho; have n0_ := ZM (blk_grown (g := gb242) (o := .cells #[.slice A0_0 l0_0.length c0_0, .slice (some ad247) l0_1.length c0_1] 27 (0, 0)) (ZBK BK242.out) hg (Kd.R_ne HO_5.out BK242.out (by decide))); have n1_ := ZM (blk_grown (g := gb243) (o := .cells #[.int .i64 a1_0, .int .i64 a1_1] 82 (0, 0)) (ZBK BK243.out) hg (Kd.R_ne HO_5.out BK243.out (by decide))); have n2_ := ZM (hb); have n3_ := ZM (ho); clear BK242; clear BK243; clear HB; clear HO_5; have BK242 := n0_; have BK243 := n1_; have HB := n2_; have HO252 := n3_; clear n0_ n1_ n2_ n3_; clear ho hb hg hat)); try go_wp2_with (first | ((with_reducible refine gate_builtin (b := .append) (xs := #[.tmp 35, .tmp 42]) rfl ?_); at_builtin; refine Kd.R_append (Kd.int .i64) (w0 := w) w.heap.size rfl (.tmp 35) (.tmp 42) 61 3 (.int .i64 0) 8 rfl Tryd.underlying61 info3 rfl (by decide) (by omega) u5 x5_1 ((rd_T42 l0_1 x6_1).f0) [.int .i64 ((rd_T42 l0_1 x6_1).f0)] (fun _ => True) (fun _ => False) rfl rfl ?aP (fun _ hk => hk.elim) ?aF ?aO ?aB ?aS ?aL ?_; (case aP => exact rfl); (case aB => exact (ZBB HB.out)); (case aF => exact (fun _ _ => trivial)); (case aO => exact (ZRK HO_5.out)); (case aS => exact (ZV (ZBB HB.out))); (case aL => have := LMc11.out; omega); intro v251 w15 ho hb hg hat; rw [← Ny250.out] at ho; have n0_ := ZM (blk_grown (g := gb242) (o := .cells #[.slice A0_0 l0_0.length c0_0, .slice (some ad247) l0_1.length c0_1] 27 (0, 0)) (ZBK BK242.out) hg (Kd.R_ne HO_5.out BK242.out (by decide))); have n1_ := ZM (blk_grown (g := gb243) (o := .cells #[.int .i64 a1_0, .int .i64 a1_1] 82 (0, 0)) (ZBK BK243.out) hg (Kd.R_ne HO_5.out BK243.out (by decide))); have n2_ := ZM (hb); have n3_ := ZM (ho); clear BK242; clear BK243; clear HB; clear HO_5; have BK242 := n0_; have BK243 := n1_; have HB := n2_; have HO252 := n3_; clear n0_ n1_ n2_ n3_; clear ho hb hg hat)))
      go_roundg k1
      case measure => have := HK1.out; omega
      case rel => exact ⟨(y250), (wrap64 (x6_1 + 1)), ZE, H', ⟨by have := HK1.out; omega⟩, ⟨ZRK HO252.out⟩, ⟨ZBK BK242.out⟩, ⟨ZBK BK243.out⟩, ⟨ZBB HB.out⟩⟩
     ·rw [if_neg c10] at H
      have c10b0 : (((rd_T42 l0_1 x6_1).f2) == a1_1) = false := beq_eq_false_iff_ne.mpr c10
      have c10b1 : (((rd_T42 l0_1 x6_1).f2) != a1_1) = true := bne_iff_ne.mpr c10
      have H' := ZM H
      clear H
      have hnb16 := NB242_243.out
      have hnc16 := NB243_242.out
      obtain ⟨hcz17_0, hcz17_1, hfz17_0, hfz17_1⟩ := ZC2 BK242.out
      have p247 : 0 ≤ (x6_1 : Int) := ZOD
      have q247 : x6_1 < (l0_1.length : Int) := ZOD
      obtain ⟨ad247, e247, hx247_0, hx247_1, hx247_2⟩ := at_T42 HR0_1.out x6_1 p247 q247
      cases e247
      replace hx247_0 := ZHX HB.out hx247_0
      replace hx247_1 := ZHX HB.out hx247_1
      replace hx247_2 := ZHX HB.out hx247_2
      replace p247 := eq_true p247
      replace q247 := eq_true q247
      obtain ⟨hcz18_0, hcz18_1, hfz18_0, hfz18_1⟩ := ZC2 BK243.out
      have p248 : 0 ≤ (x6_1 : Int) := ZOD
      have q248 : x6_1 < (l0_1.length : Int) := ZOD
      obtain ⟨ad248, e248, hx248_0, hx248_1, hx248_2⟩ := at_T42 HR0_1.out x6_1 p248 q248
      obtain rfl : ad247 = ad248 := (by injection e248)
      replace hx248_0 := ZHX HB.out hx248_0
      replace hx248_1 := ZHX HB.out hx248_1
      replace hx248_2 := ZHX HB.out hx248_2
      replace p248 := eq_true p248
      replace q248 := eq_true q248
      go_wp2
      repeat (go_quiet (fail); try go_wp2)
      go_roundg k1
      case measure => have := HK1.out; omega
      case rel => exact ⟨(x5_1), (wrap64 (x6_1 + 1)), ZE, H', ⟨by have := HK1.out; omega⟩, ⟨ZRK HO_5.out⟩, ⟨ZBK BK242.out⟩, ⟨ZBK BK243.out⟩, ⟨ZBB HB.out⟩⟩
    ·rw [if_neg c9] at H
     have c9b0 : (((rd_T42 l0_1 x6_1).f1) == a1_0) = false := beq_eq_false_iff_ne.mpr c9
     have c9b1 : (((rd_T42 l0_1 x6_1).f1) != a1_0) = true := bne_iff_ne.mpr c9
     have H' := ZM H
     clear H
     have hnb19 := NB242_243.out
     have hnc19 := NB243_242.out
     obtain ⟨hcz20_0, hcz20_1, hfz20_0, hfz20_1⟩ := ZC2 BK242.out
     have p247 : 0 ≤ (x6_1 : Int) := ZOD
     have q247 : x6_1 < (l0_1.length : Int) := ZOD
     obtain ⟨ad247, e247, hx247_0, hx247_1, hx247_2⟩ := at_T42 HR0_1.out x6_1 p247 q247
     cases e247
     replace hx247_0 := ZHX HB.out hx247_0
     replace hx247_1 := ZHX HB.out hx247_1
     replace hx247_2 := ZHX HB.out hx247_2
     replace p247 := eq_true p247
     replace q247 := eq_true q247
     obtain ⟨hcz21_0, hcz21_1, hfz21_0, hfz21_1⟩ := ZC2 BK243.out
     go_wp2
     repeat (go_quiet (fail); try go_wp2)
     go_roundg k1
     case measure => have := HK1.out; omega
     case rel => exact ⟨(x5_1), (wrap64 (x6_1 + 1)), ZE, H', ⟨by have := HK1.out; omega⟩, ⟨ZRK HO_5.out⟩, ⟨ZBK BK242.out⟩, ⟨ZBK BK243.out⟩, ⟨ZBB HB.out⟩⟩
   ·rw [if_neg c7] at H
    have c7b0 : decide (x6_1 < (l0_1.length : Int)) = false := decide_eq_false c7
    clear c7
    obtain rfl := Option.some.inj H
    have hnb22 := NB242_243.out
    have hnc22 := NB243_242.out
    obtain ⟨hcz23_0, hcz23_1, hfz23_0, hfz23_1⟩ := ZC2 BK242.out
    go_wp2
    repeat (go_quiet (fail); try go_wp2)
    go_ret
    exact ⟨_, ZEE, ZRK HO_5.out, ZBB HB.out⟩

end Go.Proofs.YtbjjcolbomaodaaDoor.PTks
