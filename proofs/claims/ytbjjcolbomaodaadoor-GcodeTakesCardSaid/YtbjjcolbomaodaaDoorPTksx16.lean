-- Laid by hprint.py of this repo: the kit's printer, and contracts by hand beside it. Not trusted: Lean checks it.
import Derived.Test.YtbjjcolbomaodaaDoorWZ
import Derived.Test.YtbjjcolbomaodaaDoorWY
import Derived.Test.YtbjjcolbomaodaaDoorPTksx0
import Derived.Test.YtbjjcolbomaodaaDoorPTksx3
namespace Go.Proofs.YtbjjcolbomaodaaDoor.PTks
open Go.RowKit Go.Proofs.YtbjjcolbomaodaaDoorW.PrintWords Go.Proofs.YtbjjcolbomaodaaDoorW.PrintLast Go.Proofs.YtbjjcolbomaodaaDoorW.PrintMore
attribute [local go_sem] max2_int min2_int max_two min_two max_three min_three max_four min_four   -- for this text's walks alone
set_option linter.unusedVariables false
set_option linter.unusedSimpArgs false

attribute [local go_sem high] eqA82
/-! ### meanderref08_HasOut: function 72 -/
def meanderref08_HasOut.f (a0 : Int) : Option (Bool) := if a0 ≥ 1 then (some (decide (a0 ≤ 10))) else (some false)
set_option maxHeartbeats 8000000 in
set_option maxRecDepth 100000 in
theorem meanderref08_HasOut.calls (a0 : Int) (r : Bool) (w : World) (h : meanderref08_HasOut.f a0 = some r) :
  Calls Tryd.prog 72 #[.int .i64 a0] w fun e w' => e = .returned (.bool r) ∧ Drawn0 w w' := by
 have H : (if a0 ≥ 1 then (some (decide (a0 ≤ 10))) else (some false)) = some r := h
 clear h
 by_cases c2 : a0 ≥ 1
 ·rw [if_pos c2] at H
  have c2b0 : decide (1 ≤ a0) = true := decide_eq_true c2
  clear c2
  obtain rfl := Option.some.inj H
  go_enter Tryd.func72, Tryd.ntmps72
  go_wp2
  go_ret
  exact ⟨ZE, ZD⟩
 ·rw [if_neg c2] at H
  have c2b0 : decide (1 ≤ a0) = false := decide_eq_false c2
  clear c2
  obtain rfl := Option.some.inj H
  go_enter Tryd.func72, Tryd.ntmps72
  go_wp2
  go_ret
  exact ⟨ZE, ZD⟩

/-! ### meanderref08_Ins: function 73 -/
def meanderref08_Ins.f (a0 : Int) : Option (Int) := if a0 = 4 then (some 2) else (if a0 ≥ 2 then (if a0 ≤ 11 then (some 1) else (some 0)) else (some 0))
set_option maxHeartbeats 8000000 in
set_option maxRecDepth 100000 in
theorem meanderref08_Ins.calls (a0 : Int) (r : Int) (w : World) (h : meanderref08_Ins.f a0 = some r) :
  Calls Tryd.prog 73 #[.int .i64 a0] w fun e w' => e = .returned (.int .i64 r) ∧ Drawn0 w w' := by
 have H : (if a0 = 4 then (some 2) else (if a0 ≥ 2 then (if a0 ≤ 11 then (some 1) else (some 0)) else (some 0))) = some r := h
 clear h
 by_cases c2 : a0 = 4
 ·rw [if_pos c2] at H
  have c2b0 : (a0 == 4) = true := beq_iff_eq.mpr c2
  have c2b1 : (a0 != 4) = false := bne_eq_false_iff_eq.mpr c2
  clear c2
  obtain rfl := Option.some.inj H
  go_enter Tryd.func73, Tryd.ntmps73
  go_wp2
  go_ret
  exact ⟨ZE, ZD⟩
 ·rw [if_neg c2] at H
  have c2b0 : (a0 == 4) = false := beq_eq_false_iff_ne.mpr c2
  have c2b1 : (a0 != 4) = true := bne_iff_ne.mpr c2
  by_cases c3 : a0 ≥ 2
  ·rw [if_pos c3] at H
   have c3b0 : decide (2 ≤ a0) = true := decide_eq_true c3
   clear c3
   by_cases c4 : a0 ≤ 11
   ·rw [if_pos c4] at H
    have c4b0 : decide (a0 ≤ 11) = true := decide_eq_true c4
    clear c4
    obtain rfl := Option.some.inj H
    go_enter Tryd.func73, Tryd.ntmps73
    go_wp2
    go_ret
    exact ⟨ZE, ZD⟩
   ·rw [if_neg c4] at H
    have c4b0 : decide (a0 ≤ 11) = false := decide_eq_false c4
    clear c4
    obtain rfl := Option.some.inj H
    go_enter Tryd.func73, Tryd.ntmps73
    go_wp2
    go_ret
    exact ⟨ZE, ZD⟩
  ·rw [if_neg c3] at H
   have c3b0 : decide (2 ≤ a0) = false := decide_eq_false c3
   clear c3
   obtain rfl := Option.some.inj H
   go_enter Tryd.func73, Tryd.ntmps73
   go_wp2
   go_ret
   exact ⟨ZE, ZD⟩

/-! ### meanderref08_Locs: function 46 -/
mutual
def meanderref08_Locs.l0 : Nat → List (S82) → Int → List (S40) → List (S42) → Option ((List (S82)))
 | 0, _, _, _, _ => none
 | k + 1, x3, x4, x212000, x212001 => if x4 < (x212000.length : Int) then (if 0 ≤ x4 then ((meanderref08_HasOut.f ((rd_T40 x212000 x4).f0)).bind fun t216 => (if t216 = true then (if x3.length < 8796093022208 then (meanderref08_Locs.j1 k (x3 ++ [(⟨x4, (-1)⟩ : S82)]) x4 x212000 x212001) else (none)) else (meanderref08_Locs.j1 k x3 x4 x212000 x212001))) else (none)) else (some x3)
def meanderref08_Locs.j1 : Nat → List (S82) → Int → List (S40) → List (S42) → Option ((List (S82)))
 | 0, _, _, _, _ => none
 | k + 1, x3, x4, x212000, x212001 => meanderref08_Locs.l1 k x3 x4 0 x212000 x212001
def meanderref08_Locs.l1 : Nat → List (S82) → Int → Int → List (S40) → List (S42) → Option ((List (S82)))
 | 0, _, _, _, _, _ => none
 | k + 1, x3, x4, x6, x212000, x212001 => if 0 ≤ x4 then (if x4 < (x212000.length : Int) then ((meanderref08_Ins.f ((rd_T40 x212000 x4).f0)).bind fun t221 => (if x6 < t221 then (if x3.length < 8796093022208 then (meanderref08_Locs.l1 k (x3 ++ [(⟨x4, x6⟩ : S82)]) x4 (wrap64 (x6 + 1)) x212000 x212001) else (none)) else (meanderref08_Locs.l0 k x3 (wrap64 (x4 + 1)) x212000 x212001))) else (none)) else (none)
end
def meanderref08_Locs.f (k : Nat) (l0_0 : List (S40)) (l0_1 : List (S42)) : Option ((List (S82))) := meanderref08_Locs.l0 k (([] : List (S82))) 0 l0_0 l0_1
theorem meanderref08_Locs.mono_l : ∀ k, (∀ y0 y1 y2 y3, LeO (meanderref08_Locs.l0 k y0 y1 y2 y3) (meanderref08_Locs.l0 (k + 1) y0 y1 y2 y3)) ∧ (∀ y0 y1 y2 y3, LeO (meanderref08_Locs.j1 k y0 y1 y2 y3) (meanderref08_Locs.j1 (k + 1) y0 y1 y2 y3)) ∧ (∀ y0 y1 y2 y3 y4, LeO (meanderref08_Locs.l1 k y0 y1 y2 y3 y4) (meanderref08_Locs.l1 (k + 1) y0 y1 y2 y3 y4))
 | 0 => ⟨fun _ _ _ _ r h => by simp [meanderref08_Locs.l0] at h, fun _ _ _ _ r h => by simp [meanderref08_Locs.j1] at h, fun _ _ _ _ _ r h => by simp [meanderref08_Locs.l1] at h⟩
 | k + 1 => by
  obtain ⟨ih0, ih1, ih2⟩ := meanderref08_Locs.mono_l k
  refine ⟨?_, ?_, ?_⟩
  ·intro y0 y1 y2 y3
   unfold meanderref08_Locs.l0
   repeat' first
   | (with_reducible exact ih0 _ _ _ _)
   | (with_reducible exact ih1 _ _ _ _)
   | (with_reducible exact ih2 _ _ _ _ _)
   | (with_reducible exact LeO.refl _)
   | (with_reducible exact LeO.none _)
   | (with_reducible refine LeO.ite ?_ ?_)
   | (with_reducible refine LeO.bind ?_ (fun _ => ?_))
   | exact ih0 _ _ _ _
   | exact ih1 _ _ _ _
   | exact ih2 _ _ _ _ _
   | exact LeO.none _
   | refine LeO.ite ?_ ?_
   | refine LeO.bind ?_ (fun _ => ?_)
  ·intro y0 y1 y2 y3
   unfold meanderref08_Locs.j1
   repeat' first
   | (with_reducible exact ih0 _ _ _ _)
   | (with_reducible exact ih1 _ _ _ _)
   | (with_reducible exact ih2 _ _ _ _ _)
   | (with_reducible exact LeO.refl _)
   | (with_reducible exact LeO.none _)
   | (with_reducible refine LeO.ite ?_ ?_)
   | (with_reducible refine LeO.bind ?_ (fun _ => ?_))
   | exact ih0 _ _ _ _
   | exact ih1 _ _ _ _
   | exact ih2 _ _ _ _ _
   | exact LeO.none _
   | refine LeO.ite ?_ ?_
   | refine LeO.bind ?_ (fun _ => ?_)
  ·intro y0 y1 y2 y3 y4
   unfold meanderref08_Locs.l1
   repeat' first
   | (with_reducible exact ih0 _ _ _ _)
   | (with_reducible exact ih1 _ _ _ _)
   | (with_reducible exact ih2 _ _ _ _ _)
   | (with_reducible exact LeO.refl _)
   | (with_reducible exact LeO.none _)
   | (with_reducible refine LeO.ite ?_ ?_)
   | (with_reducible refine LeO.bind ?_ (fun _ => ?_))
   | exact ih0 _ _ _ _
   | exact ih1 _ _ _ _
   | exact ih2 _ _ _ _ _
   | exact LeO.none _
   | refine LeO.ite ?_ ?_
   | refine LeO.bind ?_ (fun _ => ?_)
theorem meanderref08_Locs.mono : ∀ a0 a1 k, LeO (meanderref08_Locs.f k a0 a1) (meanderref08_Locs.f (k + 1) a0 a1) := by
 intro a0 a1 k
 obtain ⟨ih0, ih1, ih2⟩ := meanderref08_Locs.mono_l k
 unfold meanderref08_Locs.f
 repeat' first
   | (with_reducible exact ih0 _ _ _ _)
   | (with_reducible exact ih1 _ _ _ _)
   | (with_reducible exact ih2 _ _ _ _ _)
   | (with_reducible exact LeO.refl _)
   | (with_reducible exact LeO.none _)
   | (with_reducible refine LeO.ite ?_ ?_)
   | (with_reducible refine LeO.bind ?_ (fun _ => ?_))
   | exact ih0 _ _ _ _
   | exact ih1 _ _ _ _
   | exact ih2 _ _ _ _ _
   | exact LeO.none _
   | refine LeO.ite ?_ ?_
   | refine LeO.bind ?_ (fun _ => ?_)
set_option maxHeartbeats 8000000 in
set_option maxRecDepth 100000 in
theorem meanderref08_Locs.calls (k : Nat) (A0_0 : Option Addr) (c0_0 : Nat) (l0_0 : List (S40)) (A0_1 : Option Addr) (c0_1 : Nat) (l0_1 : List (S42)) (r : List (S82)) (w : World) (hr0_0 : Kd.C k40 w A0_0 l0_0.length l0_0) (hc0_0 : l0_0.length ≤ c0_0) (hr0_1 : Kd.C k42 w A0_1 l0_1.length l0_1) (hc0_1 : l0_1.length ≤ c0_1) (h : meanderref08_Locs.f k l0_0 l0_1 = some r) :
  Calls Tryd.prog 46 #[.agg #[.slice A0_0 l0_0.length c0_0, .slice A0_1 l0_1.length c0_1]] w fun e w' => ∃ v0_ : Value, e = .returned (v0_) ∧ Kd.R k82 82 w' w.heap.size (fun _ => True) v0_ r ∧ Below w.heap.size w w' := by
 have hu27 := Tryd.underlying27
 have hu82 := Tryd.underlying82
 have HR0_0 := ZM hr0_0
 have HC0_0 := ZM hc0_0
 clear hr0_0 hc0_0
 have HR0_1 := ZM hr0_1
 have HC0_1 := ZM hc0_1
 clear hr0_1 hc0_1
 have HB := ZM (Below.refl w.heap.size w)
 have H : (meanderref08_Locs.l0 k (([] : List (S82))) 0 l0_0 l0_1) = some r := h
 clear h
 obtain ⟨y212, hy212⟩ : ∃ y_ : List (S82), y_ = (([] : List (S82))) := ⟨_, rfl⟩
 replace H : (meanderref08_Locs.l0 k y212 0 l0_0 l0_1) = some r := by first | (rw [hy212]; with_reducible exact H) | (have H2_ := (Option.bind_some _ _).symm.trans H; rw [hy212]; with_reducible exact H2_) | (have H2_ := (Option.bind_some _ _).symm.trans H; with_reducible exact H2_) | with_reducible exact H | (rw [hy212]; exact H) | exact H
 have Ny212 := ZM hy212
 clear hy212
 have H' := ZM H
 clear H
 go_enter Tryd.func46, Tryd.ntmps46
 go_wp2_with (first | ((with_reducible refine gate_dst (N := 1) rfl ?_); refine ZBX 1 (cs := #[.slice A0_0 l0_0.length c0_0, .slice A0_1 l0_1.length c0_1]) (t := 27) ?_; intro gb211 hg w2 hbox hb; have n0_ := ZM (ZW (ZBB HB.out) hb); have n1_ := ZM (hbox); have n2_ := ZM (ZGE hg HB.out); have n3_ := ZM (ZGE hg HB.out); clear HB; have HB := n0_; have BK211 := n1_; have GW211 := n2_; have GE211 := n3_; clear n0_ n1_ n2_ n3_; clear hb hbox hg) | ((with_reducible refine gate_dst (N := 7) rfl ?_); refine Kd.R_lit k82 _ 82 ?hg (N := 7) ?hd (xs := ([] : List (S82))) (inner := []) (ok := fun _ => True) (okp := fun _ => True) ?hr ?hp (fun _ hk => hk) trivial (Below.refl _ _) (Nat.le_refl _) (by simp) ?_; (case hd => rfl); (case hg => rfl); (case hr => first | (go_simp; done) | (go_simp; rfl)); (case hp => exact (Reps.none _ _)); intro v213 w3 ho4 hb hg_ hnew_; clear hg_ hnew_; (first | rw [← Ny212.out] at ho4 | (simp only [Int.reduceToNat] at ho4; rw [← Ny212.out] at ho4)); have n0_ := ZM (Kd.R_lower ho4 (ZV (ZBB HB.out))); have n1_ := ZM (blk_below (ZBK BK211.out) hb); have n2_ := ZM (ZW (ZBB HB.out) hb); clear BK211; clear HB; have HO214 := n0_; have BK211 := n1_; have HB := n2_; clear n0_ n1_ n2_; clear hb ho4))
 go_loopg [3, 4] k (fun kq v3 v4 w' => ∃ (x3_1 : List (S82)) (x4_1 : Int), v4 = .int .i64 x4_1 ∧ Aside0 (meanderref08_Locs.l0 kq x3_1 x4_1 l0_0 l0_1 = some r) ∧ Aside0 (kq ≤ k) ∧ Aside0 (Kd.R k82 82 w' w.heap.size (fun _ => True) v3 x3_1) ∧ Aside0 (w'.heap[gb211]? = some (.cells #[(.slice A0_0 l0_0.length c0_0), (.slice A0_1 l0_1.length c0_1)] 27 (0, 0))) ∧ Aside0 (Below w.heap.size w w'))
 case atStart => exact ⟨(y212), (0), ZE, H', ⟨Nat.le_refl _⟩, ⟨ZRK HO214.out⟩, ⟨ZBK BK211.out⟩, ⟨ZBB HB.out⟩⟩
 case round =>
  clear H'
  obtain ⟨x3_1, x4_1, rfl, HA, HK1, HO_3, BK211, HB⟩ := hrel
  cases gk with
  | zero => exact absurd HA.out (by simp [meanderref08_Locs.l0])
  | succ k1 =>
   have H := HA.out
   clear HA
   simp only [meanderref08_Locs.l0] at H
   by_cases c5 : x4_1 < (l0_0.length : Int)
   ·rw [if_pos c5] at H
    have c5b0 : decide (x4_1 < (l0_0.length : Int)) = true := decide_eq_true c5
    clear c5
    by_cases c6 : 0 ≤ x4_1
    case neg =>
     rw [if_neg c6] at H
     exact absurd H (by simp)
    rw [if_pos c6] at H
    have c6b0 : decide (0 ≤ x4_1) = true := decide_eq_true c6
    clear c6
    replace H := Option.bind_eq_some_iff.mp H
    obtain ⟨t216, A70, H⟩ := H
    replace H : (if t216 = true then (if x3_1.length < 8796093022208 then (meanderref08_Locs.j1 k1 (x3_1 ++ [(⟨x4_1, (-1)⟩ : S82)]) x4_1 l0_0 l0_1) else (none)) else (meanderref08_Locs.j1 k1 x3_1 x4_1 l0_0 l0_1)) = some r := H
    have A7 := ZM A70
    clear A70
    have HC8 := ZM H
    clear H
    obtain ⟨hcz9_0, hcz9_1, hfz9_0, hfz9_1⟩ := ZC2 BK211.out
    have p215 : 0 ≤ (x4_1 : Int) := ZOD
    have q215 : x4_1 < (l0_0.length : Int) := ZOD
    obtain ⟨ad215, e215, hx215_0, hx215_1, hx215_2, hx215_3⟩ := at_T40 HR0_0.out x4_1 p215 q215
    cases e215
    replace hx215_0 := ZHX HB.out hx215_0
    replace hx215_1 := ZHX HB.out hx215_1
    replace hx215_2 := ZHX HB.out hx215_2
    replace hx215_3 := ZHX HB.out hx215_3
    replace p215 := eq_true p215
    replace q215 := eq_true q215
    go_upto_if 22 with (first | ((with_reducible refine gate_callee (f := 72) rfl ?_); refine goesL_ (some 21) rfl rfl Tryd.func72 (by kernel_rfl) rfl #[.int .i64 ((rd_T40 l0_0 x4_1).f0)] rfl ZH ?_; (with_reducible refine (meanderref08_HasOut.calls ((rd_T40 l0_0 x4_1).f0) t216 _ A7.out).mono ?_); rintro e w' ⟨rfl, ⟨nd, rfl⟩⟩; refine ⟨_, rfl, ?_⟩))
    (try simp only [Act.put, ZI, ZJ, ZK])
    go_cut [3] (fun v3 wc => ∃ (kq : Nat) (x3_7 : List (S82)), Aside0 (meanderref08_Locs.j1 kq x3_7 x4_1 l0_0 l0_1 = some r) ∧ Aside0 (kq ≤ k1) ∧ Aside0 (Kd.R k82 82 wc w.heap.size (fun _ => True) v3 x3_7) ∧ Aside0 (wc.heap[gb211]? = some (.cells #[(.slice (some ad215) l0_0.length c0_0), (.slice A0_1 l0_1.length c0_1)] 27 (0, 0))) ∧ Aside0 (Below w.heap.size w wc))
    case first =>
     have H := HC8.out
     clear HC8
     by_cases c10 : t216 = true
     ·subst c10
      have H1 : (if x3_1.length < 8796093022208 then (meanderref08_Locs.j1 k1 (x3_1 ++ [(⟨x4_1, (-1)⟩ : S82)]) x4_1 l0_0 l0_1) else (none)) = some r := by rw [if_pos rfl] at H; exact H
      clear H
      have H := H1
      clear H1
      by_cases c11 : x3_1.length < 8796093022208
      case neg =>
       rw [if_neg c11] at H
       exact absurd H (by simp)
      rw [if_pos c11] at H
      have LMc11 := ZM c11
      clear c11
      obtain ⟨y217, hy217⟩ : ∃ y_ : List (S82), y_ = (x3_1 ++ [(⟨x4_1, (-1)⟩ : S82)]) := ⟨_, rfl⟩
      replace H : (meanderref08_Locs.j1 k1 y217 x4_1 l0_0 l0_1) = some r := by first | (rw [hy217]; with_reducible exact H) | (have H2_ := (Option.bind_some _ _).symm.trans H; rw [hy217]; with_reducible exact H2_) | (have H2_ := (Option.bind_some _ _).symm.trans H; with_reducible exact H2_) | with_reducible exact H | (rw [hy217]; exact H) | exact H
      have Ny217 := ZM hy217
      clear hy217
      have H' := ZM H
      clear H
      go_wp2_with (first | ((with_reducible refine gate_builtin (b := .append) (xs := #[.tmp 23, .tmp 26]) rfl ?_); at_builtin; refine Kd.R_append k82 (w0 := w) w.heap.size rfl (.tmp 23) (.tmp 26) 84 82 (.agg #[(.int .i64 0), (.int .i64 0)]) 16 rfl Tryd.underlying84 info82 rfl (by decide) (by omega) u3 x3_1 (⟨x4_1, (-1)⟩ : S82) [.int .i64 x4_1, .int .i64 (-1)] (fun _ => True) (fun _ => False) rfl rfl ?aP (fun _ hk => hk.elim) ?aF ?aO ?aB ?aS ?aL ?_; (case aP => exact k82_mkM _ _ _ (⟨x4_1, (-1)⟩ : S82)); (case aB => exact (ZBB HB.out)); (case aF => exact (fun _ _ => trivial)); (case aO => exact (ZRK HO_3.out)); (case aS => exact (ZV (ZBB HB.out))); (case aL => have := LMc11.out; omega); intro v218 w12 ho hb hg hat; rw [← Ny217.out] at ho; have n0_ := ZM (blk_grown (g := gb211) (o := .cells #[.slice (some ad215) l0_0.length c0_0, .slice A0_1 l0_1.length c0_1] 27 (0, 0)) (ZBK BK211.out) hg (Kd.R_ne HO_3.out BK211.out (by decide))); have n1_ := ZM (hb); have n2_ := ZM (ho); clear BK211; clear HB; clear HO_3; have BK211 := n0_; have HB := n1_; have HO219 := n2_; clear n0_ n1_ n2_; clear ho hb hg hat))
      go_meet
      case rel => exact ⟨_, (y217), H', ⟨by have := HK1.out; first | omega | exact Nat.le_refl _⟩, ⟨ZRK HO219.out⟩, ⟨ZBK BK211.out⟩, ⟨ZBB HB.out⟩⟩
     ·replace c10 := Bool.eq_false_iff.mpr c10
      subst c10
      have H1 : (meanderref08_Locs.j1 k1 x3_1 x4_1 l0_0 l0_1) = some r := by rw [if_neg (show ¬ (false = true) by decide)] at H; exact H
      clear H
      have H := H1
      clear H1
      have H' := ZM H
      clear H
      go_wp2
      go_meet
      case rel => exact ⟨_, (x3_1), H', ⟨by have := HK1.out; first | omega | exact Nat.le_refl _⟩, ⟨ZRK HO_3.out⟩, ⟨ZBK BK211.out⟩, ⟨ZBB HB.out⟩⟩
    case rest =>
     clear HC8
     try clear c5
     try clear c5b0
     try clear c6
     try clear c6b0
     try clear c10
     try clear c11
     try clear hcz9_0
     try clear hcz9_1
     try clear hfz9_0
     try clear hfz9_1
     try clear hx215_0
     try clear hx215_1
     try clear hx215_2
     try clear hx215_3
     try clear p215
     try clear q215
     obtain ⟨kq, x3_7, HA, HJ7, HO_3, BK211, HB⟩ := hcut
     cases kq with
     | zero => exact absurd HA.out (by simp [meanderref08_Locs.j1])
     | succ kj7 =>
      have H := HA.out
      clear HA
      simp only [meanderref08_Locs.j1] at H
      have H' := ZM H
      clear H
      go_wp2
      go_loopg [3, 6] kj7 (fun kq v3 v6 w' => ∃ (x3_3 : List (S82)) (x6_3 : Int), v6 = .int .i64 x6_3 ∧ Aside0 (meanderref08_Locs.l1 kq x3_3 x4_1 x6_3 l0_0 l0_1 = some r) ∧ Aside0 (kq ≤ kj7) ∧ Aside0 (Kd.R k82 82 w' w.heap.size (fun _ => True) v3 x3_3) ∧ Aside0 (w'.heap[gb211]? = some (.cells #[(.slice (some ad215) l0_0.length c0_0), (.slice A0_1 l0_1.length c0_1)] 27 (0, 0))) ∧ Aside0 (Below w.heap.size w w'))
      case atStart => exact ⟨(x3_7), (0), ZE, H', ⟨Nat.le_refl _⟩, ⟨ZRK HO_3.out⟩, ⟨ZBK BK211.out⟩, ⟨ZBB HB.out⟩⟩
      case round =>
       clear H'
       try clear c5
       try clear c5b0
       try clear c6
       try clear c6b0
       try clear c10
       try clear c11
       try clear hcz9_0
       try clear hcz9_1
       try clear hfz9_0
       try clear hfz9_1
       try clear hx215_0
       try clear hx215_1
       try clear hx215_2
       try clear hx215_3
       try clear p215
       try clear q215
       obtain ⟨x3_3, x6_3, rfl, HA, HK3, HO_3, BK211, HB⟩ := hrel
       cases gk with
       | zero => exact absurd HA.out (by simp [meanderref08_Locs.l1])
       | succ k3 =>
        have H := HA.out
        clear HA
        simp only [meanderref08_Locs.l1] at H
        by_cases c13 : 0 ≤ x4_1
        case neg =>
         rw [if_neg c13] at H
         exact absurd H (by simp)
        rw [if_pos c13] at H
        have c13b0 : decide (0 ≤ x4_1) = true := decide_eq_true c13
        clear c13
        by_cases c14 : x4_1 < (l0_0.length : Int)
        case neg =>
         rw [if_neg c14] at H
         exact absurd H (by simp)
        rw [if_pos c14] at H
        have c14b0 : decide (x4_1 < (l0_0.length : Int)) = true := decide_eq_true c14
        clear c14
        replace H := Option.bind_eq_some_iff.mp H
        obtain ⟨t221, A150, H⟩ := H
        replace H : (if x6_3 < t221 then (if x3_3.length < 8796093022208 then (meanderref08_Locs.l1 k3 (x3_3 ++ [(⟨x4_1, x6_3⟩ : S82)]) x4_1 (wrap64 (x6_3 + 1)) l0_0 l0_1) else (none)) else (meanderref08_Locs.l0 k3 x3_3 (wrap64 (x4_1 + 1)) l0_0 l0_1)) = some r := H
        have A15 := ZM A150
        clear A150
        by_cases c16 : x6_3 < t221
        ·rw [if_pos c16] at H
         have c16b0 : decide (x6_3 < t221) = true := decide_eq_true c16
         clear c16
         by_cases c17 : x3_3.length < 8796093022208
         case neg =>
          rw [if_neg c17] at H
          exact absurd H (by simp)
         rw [if_pos c17] at H
         have LMc17 := ZM c17
         clear c17
         obtain ⟨y222, hy222⟩ : ∃ y_ : List (S82), y_ = (x3_3 ++ [(⟨x4_1, x6_3⟩ : S82)]) := ⟨_, rfl⟩
         replace H : (meanderref08_Locs.l1 k3 y222 x4_1 (wrap64 (x6_3 + 1)) l0_0 l0_1) = some r := by first | (rw [hy222]; with_reducible exact H) | (have H2_ := (Option.bind_some _ _).symm.trans H; rw [hy222]; with_reducible exact H2_) | (have H2_ := (Option.bind_some _ _).symm.trans H; with_reducible exact H2_) | with_reducible exact H | (rw [hy222]; exact H) | exact H
         have Ny222 := ZM hy222
         clear hy222
         have H' := ZM H
         clear H
         obtain ⟨hcz18_0, hcz18_1, hfz18_0, hfz18_1⟩ := ZC2 BK211.out
         have p220 : 0 ≤ (x4_1 : Int) := ZOD
         have q220 : x4_1 < (l0_0.length : Int) := ZOD
         obtain ⟨ad220, e220, hx220_0, hx220_1, hx220_2, hx220_3⟩ := at_T40 HR0_0.out x4_1 p220 q220
         obtain rfl : ad215 = ad220 := (by injection e220)
         replace hx220_0 := ZHX HB.out hx220_0
         replace hx220_1 := ZHX HB.out hx220_1
         replace hx220_2 := ZHX HB.out hx220_2
         replace hx220_3 := ZHX HB.out hx220_3
         replace p220 := eq_true p220
         replace q220 := eq_true q220
         go_wp2_with (first | ((with_reducible refine gate_callee (f := 73) rfl ?_); refine goesL_ (some 35) rfl rfl Tryd.func73 (by kernel_rfl) rfl #[.int .i64 ((rd_T40 l0_0 x4_1).f0)] rfl ZH ?_; (with_reducible refine (meanderref08_Ins.calls ((rd_T40 l0_0 x4_1).f0) t221 _ A15.out).mono ?_); rintro e w' ⟨rfl, ⟨nd, rfl⟩⟩; refine ⟨_, rfl, ?_⟩) | ((with_reducible refine gate_builtin (b := .append) (xs := #[.tmp 39, .tmp 43]) rfl ?_); at_builtin; refine Kd.R_append k82 (w0 := w) w.heap.size rfl (.tmp 39) (.tmp 43) 84 82 (.agg #[(.int .i64 0), (.int .i64 0)]) 16 rfl Tryd.underlying84 info82 rfl (by decide) (by omega) u3 x3_3 (⟨x4_1, x6_3⟩ : S82) [.int .i64 x4_1, .int .i64 x6_3] (fun _ => True) (fun _ => False) rfl rfl ?aP (fun _ hk => hk.elim) ?aF ?aO ?aB ?aS ?aL ?_; (case aP => exact k82_mkM _ _ _ (⟨x4_1, x6_3⟩ : S82)); (case aB => exact (ZBB HB.out)); (case aF => exact (fun _ _ => trivial)); (case aO => exact (ZRK HO_3.out)); (case aS => exact (ZV (ZBB HB.out))); (case aL => have := LMc17.out; omega); intro v223 w19 ho hb hg hat; rw [← Ny222.out] at ho; have n0_ := ZM (blk_grown (g := gb211) (o := .cells #[.slice (some ad215) l0_0.length c0_0, .slice A0_1 l0_1.length c0_1] 27 (0, 0)) (ZBK BK211.out) hg (Kd.R_ne HO_3.out BK211.out (by decide))); have n1_ := ZM (hb); have n2_ := ZM (ho); clear BK211; clear HB; clear HO_3; have BK211 := n0_; have HB := n1_; have HO224 := n2_; clear n0_ n1_ n2_; clear ho hb hg hat))
         go_roundg k3
         case measure => have := HK1.out; have := HJ7.out; have := HK3.out; omega
         case rel => exact ⟨(y222), (wrap64 (x6_3 + 1)), ZE, H', ⟨by have := HK1.out; have := HJ7.out; have := HK3.out; omega⟩, ⟨ZRK HO224.out⟩, ⟨ZBK BK211.out⟩, ⟨ZBB HB.out⟩⟩
        ·rw [if_neg c16] at H
         have c16b0 : decide (x6_3 < t221) = false := decide_eq_false c16
         clear c16
         have H' := ZM H
         clear H
         obtain ⟨hcz20_0, hcz20_1, hfz20_0, hfz20_1⟩ := ZC2 BK211.out
         have p220 : 0 ≤ (x4_1 : Int) := ZOD
         have q220 : x4_1 < (l0_0.length : Int) := ZOD
         obtain ⟨ad220, e220, hx220_0, hx220_1, hx220_2, hx220_3⟩ := at_T40 HR0_0.out x4_1 p220 q220
         obtain rfl : ad215 = ad220 := (by injection e220)
         replace hx220_0 := ZHX HB.out hx220_0
         replace hx220_1 := ZHX HB.out hx220_1
         replace hx220_2 := ZHX HB.out hx220_2
         replace hx220_3 := ZHX HB.out hx220_3
         replace p220 := eq_true p220
         replace q220 := eq_true q220
         go_wp2_with (first | ((with_reducible refine gate_callee (f := 73) rfl ?_); refine goesL_ (some 35) rfl rfl Tryd.func73 (by kernel_rfl) rfl #[.int .i64 ((rd_T40 l0_0 x4_1).f0)] rfl ZH ?_; (with_reducible refine (meanderref08_Ins.calls ((rd_T40 l0_0 x4_1).f0) t221 _ A15.out).mono ?_); rintro e w' ⟨rfl, ⟨nd, rfl⟩⟩; refine ⟨_, rfl, ?_⟩))
         go_roundg k3
         case measure => have := HK1.out; have := HJ7.out; have := HK3.out; omega
         case rel => exact ⟨(x3_3), (wrap64 (x4_1 + 1)), ZE, H', ⟨by have := HK1.out; have := HJ7.out; have := HK3.out; omega⟩, ⟨ZRK HO_3.out⟩, ⟨ZBK BK211.out⟩, ⟨ZBB HB.out⟩⟩
   ·rw [if_neg c5] at H
    have c5b0 : decide (x4_1 < (l0_0.length : Int)) = false := decide_eq_false c5
    clear c5
    obtain rfl := Option.some.inj H
    obtain ⟨hcz21_0, hcz21_1, hfz21_0, hfz21_1⟩ := ZC2 BK211.out
    go_wp2
    go_ret
    exact ⟨_, ZEE, ZRK HO_3.out, ZBB HB.out⟩

/-! ### meanderref08_Is: function 44 -/
def meanderref08_Is.l0 : Nat → List (S82) → Int → Int → Int → Option (Bool)
 | 0, _, _, _, _ => none
 | k + 1, x5, x6, x227000, x227001 => if x6 < (x5.length : Int) then (if 0 ≤ x6 then (if (((rd_T82 x5 x6).f0) == x227000 && (((rd_T82 x5 x6).f1) == x227001)) = true then (some true) else (meanderref08_Is.l0 k x5 (wrap64 (x6 + 1)) x227000 x227001)) else (none)) else (some false)
def meanderref08_Is.f (k : Nat) (l0_0 : List (S40)) (l0_1 : List (S42)) (a1_0 : Int) (a1_1 : Int) : Option (Bool) := (meanderref08_Locs.f k l0_0 l0_1).bind fun t227 => (meanderref08_Is.l0 k t227 0 a1_0 a1_1)
theorem meanderref08_Is.mono_l : ∀ k, (∀ y0 y1 y2 y3, LeO (meanderref08_Is.l0 k y0 y1 y2 y3) (meanderref08_Is.l0 (k + 1) y0 y1 y2 y3))
 | 0 => fun _ _ _ _ r h => by simp [meanderref08_Is.l0] at h
 | k + 1 => by
  have ih0 := meanderref08_Is.mono_l k
  ·intro y0 y1 y2 y3
   unfold meanderref08_Is.l0
   repeat' first
   | (with_reducible exact ih0 _ _ _ _)
   | (with_reducible exact meanderref08_Locs.mono _ _ _)
   | (with_reducible exact LeO.refl _)
   | (with_reducible exact LeO.none _)
   | (with_reducible refine LeO.ite ?_ ?_)
   | (with_reducible refine LeO.bind ?_ (fun _ => ?_))
   | exact ih0 _ _ _ _
   | exact meanderref08_Locs.mono _ _ _
   | exact LeO.none _
   | refine LeO.ite ?_ ?_
   | refine LeO.bind ?_ (fun _ => ?_)
theorem meanderref08_Is.mono : ∀ a0 a1 a2 a3 k, LeO (meanderref08_Is.f k a0 a1 a2 a3) (meanderref08_Is.f (k + 1) a0 a1 a2 a3) := by
 intro a0 a1 a2 a3 k
 have ih0 := meanderref08_Is.mono_l k
 unfold meanderref08_Is.f
 repeat' first
   | (with_reducible exact ih0 _ _ _ _)
   | (with_reducible exact meanderref08_Locs.mono _ _ _)
   | (with_reducible exact LeO.refl _)
   | (with_reducible exact LeO.none _)
   | (with_reducible refine LeO.ite ?_ ?_)
   | (with_reducible refine LeO.bind ?_ (fun _ => ?_))
   | exact ih0 _ _ _ _
   | exact meanderref08_Locs.mono _ _ _
   | exact LeO.none _
   | refine LeO.ite ?_ ?_
   | refine LeO.bind ?_ (fun _ => ?_)
set_option maxHeartbeats 8000000 in
set_option maxRecDepth 100000 in
theorem meanderref08_Is.calls (k : Nat) (A0_0 : Option Addr) (c0_0 : Nat) (l0_0 : List (S40)) (A0_1 : Option Addr) (c0_1 : Nat) (l0_1 : List (S42)) (a1_0 : Int) (a1_1 : Int) (r : Bool) (w : World) (hr0_0 : Kd.C k40 w A0_0 l0_0.length l0_0) (hc0_0 : l0_0.length ≤ c0_0) (hr0_1 : Kd.C k42 w A0_1 l0_1.length l0_1) (hc0_1 : l0_1.length ≤ c0_1) (h : meanderref08_Is.f k l0_0 l0_1 a1_0 a1_1 = some r) :
  Calls Tryd.prog 44 #[.agg #[.slice A0_0 l0_0.length c0_0, .slice A0_1 l0_1.length c0_1], .agg #[.int .i64 a1_0, .int .i64 a1_1]] w fun e w' => e = .returned (.bool r) ∧ Below w.heap.size w w' := by
 have hu27 := Tryd.underlying27
 have hu82 := Tryd.underlying82
 have HR0_0 := ZM hr0_0
 have HC0_0 := ZM hc0_0
 clear hr0_0 hc0_0
 have HR0_1 := ZM hr0_1
 have HC0_1 := ZM hc0_1
 clear hr0_1 hc0_1
 have HB := ZM (Below.refl w.heap.size w)
 have H : ((meanderref08_Locs.f k l0_0 l0_1).bind fun t227 => (meanderref08_Is.l0 k t227 0 a1_0 a1_1)) = some r := h
 clear h
 replace H := Option.bind_eq_some_iff.mp H
 obtain ⟨t227, A30, H⟩ := H
 replace H : (meanderref08_Is.l0 k t227 0 a1_0 a1_1) = some r := H
 have A3 := ZM A30
 clear A30
 have H' := ZM H
 clear H
 go_enter Tryd.func44, Tryd.ntmps44
 go_wp2_with (first | ((with_reducible refine gate_dst (N := 2) rfl ?_); refine ZBX 2 (cs := #[.slice A0_0 l0_0.length c0_0, .slice A0_1 l0_1.length c0_1]) (t := 27) ?_; intro gb225 hg w4 hbox hb; have n0_ := ZM (ZW (ZBB HB.out) hb); have n1_ := ZM (hbox); have n2_ := ZM (ZGE hg HB.out); have n3_ := ZM (ZGE hg HB.out); clear HB; have HB := n0_; have BK225 := n1_; have GW225 := n2_; have GE225 := n3_; clear n0_ n1_ n2_ n3_; clear hb hbox hg) | ((with_reducible refine gate_dst (N := 3) rfl ?_); refine ZBX 3 (cs := #[.int .i64 a1_0, .int .i64 a1_1]) (t := 82) ?_; intro gb226 hg w5 hbox hb; have n0_ := ZM (blk_below (ZBK BK225.out) hb); have n1_ := ZM (ZW (ZBB HB.out) hb); have n2_ := ZM (hbox); have n3_ := ZM (ZGE hg HB.out); have n4_ := ZM (ZGE hg HB.out); have n5_ := ZM (ZNE hg BK225.out); have n6_ := ZM (ZNG hg BK225.out); clear BK225; clear HB; have BK225 := n0_; have HB := n1_; have BK226 := n2_; have GW226 := n3_; have GE226 := n4_; have NB225_226 := n5_; have NB226_225 := n6_; clear n0_ n1_ n2_ n3_ n4_ n5_ n6_; clear hb hbox hg; have hnb6 := NB225_226.out; have hnc6 := NB226_225.out; obtain ⟨hcz7_0, hcz7_1, hfz7_0, hfz7_1⟩ := ZC2 BK225.out) | (go_at_call 46; (with_reducible refine (meanderref08_Locs.calls k _ _ l0_0 _ _ l0_1 t227 _ ?side1 ?side2 ?side3 ?side4 A3.out).mono ?_); (case side1 => repeat (first | exact (Kd.C_below HR0_0.out HB.out) | (with_reducible refine Kd.C_alloc ?_ _) | (with_reducible refine Kd.C_drewN ?_ _) | (with_reducible refine Kd.C_drew ?_))); (case side2 => exact HC0_0.out); (case side3 => repeat (first | exact (Kd.C_below HR0_1.out HB.out) | (with_reducible refine Kd.C_alloc ?_ _) | (with_reducible refine Kd.C_drewN ?_ _) | (with_reducible refine Kd.C_drew ?_))); (case side4 => exact HC0_1.out); rintro e w8 ⟨v228, rfl, ho0, hb⟩; have n0_ := ZM (Kd.R_lower (Kd.R_newB ho0 (g := gb226) (o := .cells #[.int .i64 a1_0, .int .i64 a1_1] 82 (0, 0)) (ZBK BK226.out)) (ZV (ZBB HB.out))); have n1_ := ZM (blk_below (ZBK BK225.out) hb); have n2_ := ZM (blk_below (ZBK BK226.out) hb); have n3_ := ZM (ZW (ZBB HB.out) hb); clear BK225; clear BK226; clear HB; have HO229 := n0_; have BK225 := n1_; have BK226 := n2_; have HB := n3_; clear n0_ n1_ n2_ n3_; (try clear hb); (try clear hb2); (try clear hk); (try clear hi); (try clear ho0)))
 repeat (go_quiet (fail); try go_wp2_with (fail))
 go_loopg [6] k (fun kq v6 w' => ∃ (x6_1 : Int), v6 = .int .i64 x6_1 ∧ Aside0 (meanderref08_Is.l0 kq t227 x6_1 a1_0 a1_1 = some r) ∧ Aside0 (kq ≤ k) ∧ Aside0 (Kd.R k82 82 w' w.heap.size (fun k_ => k_ ≠ gb226) v228 t227) ∧ Aside0 (w'.heap[gb225]? = some (.cells #[(.slice A0_0 l0_0.length c0_0), (.slice A0_1 l0_1.length c0_1)] 27 (0, 0))) ∧ Aside0 (w'.heap[gb226]? = some (.cells #[.int .i64 a1_0, .int .i64 a1_1] 82 (0, 0))) ∧ Aside0 (Below w.heap.size w w'))
 case atStart => exact ⟨(0), ZE, H', ⟨Nat.le_refl _⟩, ⟨by (with_reducible repeat (first | apply ZY | apply ZX | apply ZZ)); exact Kd.R_mono HO229.out (fun _ hk => hk.2)⟩, ⟨ZBK BK225.out⟩, ⟨ZBK BK226.out⟩, ⟨ZBB HB.out⟩⟩
 case round =>
  clear H'
  try clear hcz7_0
  try clear hcz7_1
  try clear hfz7_0
  try clear hfz7_1
  obtain ⟨x6_1, rfl, HA, HK1, HO_5, BK225, BK226, HB⟩ := hrel
  cases gk with
  | zero => exact absurd HA.out (by simp [meanderref08_Is.l0])
  | succ k1 =>
   have H := HA.out
   clear HA
   simp only [meanderref08_Is.l0] at H
   by_cases c9 : x6_1 < (t227.length : Int)
   ·rw [if_pos c9] at H
    have c9b0 : decide (x6_1 < (t227.length : Int)) = true := decide_eq_true c9
    clear c9
    by_cases c10 : 0 ≤ x6_1
    case neg =>
     rw [if_neg c10] at H
     exact absurd H (by simp)
    rw [if_pos c10] at H
    have c10b0 : decide (0 ≤ x6_1) = true := decide_eq_true c10
    clear c10
    by_cases c11 : (((rd_T82 t227 x6_1).f0) == a1_0 && (((rd_T82 t227 x6_1).f1) == a1_1)) = true
    ·rw [if_pos c11] at H
     have c11b0 : (((rd_T82 t227 x6_1).f0) == a1_0 && (((rd_T82 t227 x6_1).f1) == a1_1)) = true := c11
     (try (have c11b1 : decide (((rd_T82 t227 x6_1).f0) = a1_0 && (((rd_T82 t227 x6_1).f1) == a1_1)) = true := by simpa using c11))
     (try (have c11b2 : (((rd_T82 t227 x6_1).f0) == a1_0 && (((rd_T82 t227 x6_1).f1) == a1_1)) = true := by simpa using c11))
     clear c11
     obtain rfl := Option.some.inj H
     obtain ⟨Ao12, co12, eo12⟩ := Kd.R_slice HO_5.out
     subst eo12
     have p230 : 0 ≤ (x6_1 : Int) := ZOD
     have q230 : x6_1 < (t227.length : Int) := ZOD
     obtain ⟨ad230, e230, hx230_0, hx230_1⟩ := at_T82 (Kd.R_reads' HO_5.out).2.2 x6_1 p230 q230
     cases e230
     replace p230 := eq_true p230
     replace q230 := eq_true q230
     have hnb13 := NB226_225.out
     have hnc13 := NB225_226.out
     obtain ⟨hcz14_0, hcz14_1, hfz14_0, hfz14_1⟩ := ZC2 BK226.out
     go_wp2
     repeat (go_quiet (fail); try go_wp2)
     go_ret
     exact ⟨ZEE, ZBB HB.out⟩
    ·rw [if_neg c11] at H
     have c11b0 : (((rd_T82 t227 x6_1).f0) == a1_0 && (((rd_T82 t227 x6_1).f1) == a1_1)) = false := by simpa using c11
     (try (have c11b1 : decide (((rd_T82 t227 x6_1).f0) = a1_0 && (((rd_T82 t227 x6_1).f1) == a1_1)) = false := by simpa using c11))
     (try (have c11b2 : (((rd_T82 t227 x6_1).f0) == a1_0 && (((rd_T82 t227 x6_1).f1) == a1_1)) = false := by simpa using c11))
     (try (have c11b3 : ¬ (((rd_T82 t227 x6_1).f0) = a1_0 && (((rd_T82 t227 x6_1).f1) == a1_1)) := by simpa using c11))
     clear c11
     have H' := ZM H
     clear H
     obtain ⟨Ao15, co15, eo15⟩ := Kd.R_slice HO_5.out
     subst eo15
     have p230 : 0 ≤ (x6_1 : Int) := ZOD
     have q230 : x6_1 < (t227.length : Int) := ZOD
     obtain ⟨ad230, e230, hx230_0, hx230_1⟩ := at_T82 (Kd.R_reads' HO_5.out).2.2 x6_1 p230 q230
     cases e230
     replace p230 := eq_true p230
     replace q230 := eq_true q230
     have hnb16 := NB226_225.out
     have hnc16 := NB225_226.out
     obtain ⟨hcz17_0, hcz17_1, hfz17_0, hfz17_1⟩ := ZC2 BK226.out
     go_wp2
     repeat (go_quiet (fail); try go_wp2)
     go_roundg k1
     case measure => have := HK1.out; omega
     case rel => exact ⟨(wrap64 (x6_1 + 1)), ZE, H', ⟨by have := HK1.out; omega⟩, ⟨ZRK HO_5.out⟩, ⟨ZBK BK225.out⟩, ⟨ZBK BK226.out⟩, ⟨ZBB HB.out⟩⟩
   ·rw [if_neg c9] at H
    have c9b0 : decide (x6_1 < (t227.length : Int)) = false := decide_eq_false c9
    clear c9
    obtain rfl := Option.some.inj H
    obtain ⟨Ao18, co18, eo18⟩ := Kd.R_slice HO_5.out
    subst eo18
    go_wp2
    repeat (go_quiet (fail); try go_wp2)
    go_ret
    exact ⟨ZEE, ZBB HB.out⟩

/-! ### meanderref08_InDepth: function 45 -/
def meanderref08_InDepth.f (a0_0 : Int) (a0_1 : Int) (a0_2 : Int) (a0_3 : Int) : Option (Int) := if a0_0 = 8 then (some (wrap64 (a0_3 - 1))) else (if a0_0 = 9 then (some (wrap64 (a0_3 + 1))) else (some a0_3))
set_option maxHeartbeats 8000000 in
set_option maxRecDepth 100000 in
theorem meanderref08_InDepth.calls (a0_0 : Int) (a0_1 : Int) (a0_2 : Int) (a0_3 : Int) (r : Int) (w : World) (h : meanderref08_InDepth.f a0_0 a0_1 a0_2 a0_3 = some r) :
  Calls Tryd.prog 45 #[.agg #[.int .i64 a0_0, .int .i64 a0_1, .int .i64 a0_2, .int .i64 a0_3]] w fun e w' => e = .returned (.int .i64 r) ∧ Below w.heap.size w w' := by
 have hu40 := Tryd.underlying40
 have HB := ZM (Below.refl w.heap.size w)
 have H : (if a0_0 = 8 then (some (wrap64 (a0_3 - 1))) else (if a0_0 = 9 then (some (wrap64 (a0_3 + 1))) else (some a0_3))) = some r := h
 clear h
 by_cases c2 : a0_0 = 8
 ·rw [if_pos c2] at H
  have c2b0 : (a0_0 == 8) = true := beq_iff_eq.mpr c2
  have c2b1 : (a0_0 != 8) = false := bne_eq_false_iff_eq.mpr c2
  clear c2
  obtain rfl := Option.some.inj H
  go_enter Tryd.func45, Tryd.ntmps45
  go_wp2_with (first | ((with_reducible refine gate_dst (N := 1) rfl ?_); refine ZBX 1 (cs := #[.int .i64 a0_0, .int .i64 a0_1, .int .i64 a0_2, .int .i64 a0_3]) (t := 40) ?_; intro gb231 hg w3 hbox hb; have n0_ := ZM (ZW (ZBB HB.out) hb); have n1_ := ZM (hbox); have n2_ := ZM (ZGE hg HB.out); have n3_ := ZM (ZGE hg HB.out); clear HB; have HB := n0_; have BK231 := n1_; have GW231 := n2_; have GE231 := n3_; clear n0_ n1_ n2_ n3_; clear hb hbox hg; obtain ⟨hcz4_0, hcz4_1, hcz4_2, hcz4_3, hfz4_0, hfz4_1, hfz4_2, hfz4_3⟩ := ZC4 BK231.out))
  go_ret
  exact ⟨ZEE, ZBB HB.out⟩
 ·rw [if_neg c2] at H
  have c2b0 : (a0_0 == 8) = false := beq_eq_false_iff_ne.mpr c2
  have c2b1 : (a0_0 != 8) = true := bne_iff_ne.mpr c2
  by_cases c5 : a0_0 = 9
  ·rw [if_pos c5] at H
   have c5b0 : (a0_0 == 9) = true := beq_iff_eq.mpr c5
   have c5b1 : (a0_0 != 9) = false := bne_eq_false_iff_eq.mpr c5
   clear c5
   obtain rfl := Option.some.inj H
   go_enter Tryd.func45, Tryd.ntmps45
   go_wp2_with (first | ((with_reducible refine gate_dst (N := 1) rfl ?_); refine ZBX 1 (cs := #[.int .i64 a0_0, .int .i64 a0_1, .int .i64 a0_2, .int .i64 a0_3]) (t := 40) ?_; intro gb231 hg w6 hbox hb; have n0_ := ZM (ZW (ZBB HB.out) hb); have n1_ := ZM (hbox); have n2_ := ZM (ZGE hg HB.out); have n3_ := ZM (ZGE hg HB.out); clear HB; have HB := n0_; have BK231 := n1_; have GW231 := n2_; have GE231 := n3_; clear n0_ n1_ n2_ n3_; clear hb hbox hg; obtain ⟨hcz7_0, hcz7_1, hcz7_2, hcz7_3, hfz7_0, hfz7_1, hfz7_2, hfz7_3⟩ := ZC4 BK231.out))
   go_ret
   exact ⟨ZEE, ZBB HB.out⟩
  ·rw [if_neg c5] at H
   have c5b0 : (a0_0 == 9) = false := beq_eq_false_iff_ne.mpr c5
   have c5b1 : (a0_0 != 9) = true := bne_iff_ne.mpr c5
   obtain rfl := Option.some.inj H
   go_enter Tryd.func45, Tryd.ntmps45
   go_wp2_with (first | ((with_reducible refine gate_dst (N := 1) rfl ?_); refine ZBX 1 (cs := #[.int .i64 a0_0, .int .i64 a0_1, .int .i64 a0_2, .int .i64 a0_3]) (t := 40) ?_; intro gb231 hg w8 hbox hb; have n0_ := ZM (ZW (ZBB HB.out) hb); have n1_ := ZM (hbox); have n2_ := ZM (ZGE hg HB.out); have n3_ := ZM (ZGE hg HB.out); clear HB; have HB := n0_; have BK231 := n1_; have GW231 := n2_; have GE231 := n3_; clear n0_ n1_ n2_ n3_; clear hb hbox hg; obtain ⟨hcz9_0, hcz9_1, hcz9_2, hcz9_3, hfz9_0, hfz9_1, hfz9_2, hfz9_3⟩ := ZC4 BK231.out))
   go_ret
   exact ⟨ZEE, ZBB HB.out⟩

end Go.Proofs.YtbjjcolbomaodaaDoor.PTks
