-- Laid by hprint.py of this repo: the kit's printer, and contracts by hand beside it. Not trusted: Lean checks it.
import Derived.Test.YtbjjcolbomaodaaDoorWZ
import Derived.Test.YtbjjcolbomaodaaDoorWY
import Derived.Test.YtbjjcolbomaodaaDoorPTksx0
import Derived.Test.YtbjjcolbomaodaaDoorPTksx11
namespace Go.Proofs.YtbjjcolbomaodaaDoor.PTks
open Go.RowKit Go.Proofs.YtbjjcolbomaodaaDoorW.PrintWords Go.Proofs.YtbjjcolbomaodaaDoorW.PrintLast Go.Proofs.YtbjjcolbomaodaaDoorW.PrintMore
attribute [local go_sem] max2_int min2_int max_two min_two max_three min_three max_four min_four   -- for this text's walks alone
set_option linter.unusedVariables false
set_option linter.unusedSimpArgs false

/-! ### valid_round: function 67 -/
mutual
def valid_round.l0 : Nat → Int → Int → List Bool → List Int → List (S40) → List (S42) → Option (Bool)
 | 0, _, _, _, _, _, _ => none
 | k + 1, x1, x5, x6, x7, x166000, x166001 => if (x7.length : Int) > 0 then (if 0 < (x7.length : Int) then (if 1 ≤ (x7.length : Int) then ((graph_Next.f k x166000 x166001 (rd x7 0)).bind fun t179 => (valid_round.l1 k x1 x5 x6 (x7.drop (1 : Int).toNat) t179 (t179.length : Int) 0 x166000 x166001)) else (none)) else (none)) else (if 0 ≤ x1 then (if x1 < (x6.length : Int) then (some (rdOf false x6 x1)) else (none)) else (none))
def valid_round.l1 : Nat → Int → Int → List Bool → List Int → List (S82) → Int → Int → List (S40) → List (S42) → Option (Bool)
 | 0, _, _, _, _, _, _, _, _, _ => none
 | k + 1, x1, x5, x6, x7, x34, x35, x36, x166000, x166001 => if x36 < x35 then (if 0 ≤ x36 then (if x36 < (x34.length : Int) then (if 0 ≤ ((rd_T82 x34 x36).f0) then (if ((rd_T82 x34 x36).f0) < (x166000.length : Int) then (if ((rd_T82 x34 x36).f0) < (x6.length : Int) then (if rdOf false x6 ((rd_T82 x34 x36).f0) = true then (valid_round.j2 k x1 x5 x6 x7 x34 x35 x36 (rdOf false x6 ((rd_T82 x34 x36).f0)) x166000 x166001 ((rd_T82 x34 x36).f0) ((rd_T82 x34 x36).f1)) else ((valid_low.f ((rd_T40 x166000 ((rd_T82 x34 x36).f0)).f0) ((rd_T40 x166000 ((rd_T82 x34 x36).f0)).f1) ((rd_T40 x166000 ((rd_T82 x34 x36).f0)).f2) ((rd_T40 x166000 ((rd_T82 x34 x36).f0)).f3)).bind fun t187 => (if t187 < x5 then (valid_round.j2 k x1 x5 x6 x7 x34 x35 x36 (decide (t187 < x5)) x166000 x166001 ((rd_T82 x34 x36).f0) ((rd_T82 x34 x36).f1)) else (if ((rd_T40 x166000 ((rd_T82 x34 x36).f0)).f0) = 10 then (valid_round.j2 k x1 x5 x6 x7 x34 x35 x36 (((rd_T40 x166000 ((rd_T82 x34 x36).f0)).f3) == x5) x166000 x166001 ((rd_T82 x34 x36).f0) ((rd_T82 x34 x36).f1)) else (valid_round.j2 k x1 x5 x6 x7 x34 x35 x36 false x166000 x166001 ((rd_T82 x34 x36).f0) ((rd_T82 x34 x36).f1)))))) else (none)) else (none)) else (none)) else (none)) else (none)) else (valid_round.l0 k x1 x5 x6 x7 x166000 x166001)
def valid_round.j2 : Nat → Int → Int → List Bool → List Int → List (S82) → Int → Int → Bool → List (S40) → List (S42) → Int → Int → Option (Bool)
 | 0, _, _, _, _, _, _, _, _, _, _, _, _ => none
 | k + 1, x1, x5, x6, x7, x34, x35, x36, x46, x166000, x166001, x184000, x184001 => if x46 = true then (valid_round.l1 k x1 x5 x6 x7 x34 x35 (wrap64 (x36 + 1)) x166000 x166001) else (if x184000 = x1 then (if 0 ≤ x1 then (if x1 < (x6.length : Int) then (some (rdOf false (x6.set (x1 : Int).toNat true) x1)) else (none)) else (none)) else (if 0 ≤ x184000 then (if x184000 < (x6.length : Int) then (if x7.length < 17592186044416 then (valid_round.l1 k x1 x5 (x6.set (x184000 : Int).toNat true) (x7 ++ [x184000]) x34 x35 (wrap64 (x36 + 1)) x166000 x166001) else (none)) else (none)) else (none)))
end
def valid_round.f (k : Nat) (l0_0 : List (S40)) (l0_1 : List (S42)) (a1 : Int) : Option (Bool) := if 0 ≤ a1 then (if a1 < (l0_0.length : Int) then ((valid_low.f ((rd_T40 l0_0 a1).f0) ((rd_T40 l0_0 a1).f1) ((rd_T40 l0_0 a1).f2) ((rd_T40 l0_0 a1).f3)).bind fun t167 => (if 0 ≤ (l0_0.length : Int) then (if ((l0_0.length : Int) : Int).toNat ≤ 281474976710656 then (valid_round.l0 k a1 t167 (List.replicate ((l0_0.length : Int) : Int).toNat false) (([a1] : List Int)) l0_0 l0_1) else (none)) else (none))) else (none)) else (none)
theorem valid_round.mono_l : ∀ k, (∀ y0 y1 y2 y3 y4 y5, LeO (valid_round.l0 k y0 y1 y2 y3 y4 y5) (valid_round.l0 (k + 1) y0 y1 y2 y3 y4 y5)) ∧ (∀ y0 y1 y2 y3 y4 y5 y6 y7 y8, LeO (valid_round.l1 k y0 y1 y2 y3 y4 y5 y6 y7 y8) (valid_round.l1 (k + 1) y0 y1 y2 y3 y4 y5 y6 y7 y8)) ∧ (∀ y0 y1 y2 y3 y4 y5 y6 y7 y8 y9 y10 y11, LeO (valid_round.j2 k y0 y1 y2 y3 y4 y5 y6 y7 y8 y9 y10 y11) (valid_round.j2 (k + 1) y0 y1 y2 y3 y4 y5 y6 y7 y8 y9 y10 y11))
 | 0 => ⟨fun _ _ _ _ _ _ r h => by simp [valid_round.l0] at h, fun _ _ _ _ _ _ _ _ _ r h => by simp [valid_round.l1] at h, fun _ _ _ _ _ _ _ _ _ _ _ _ r h => by simp [valid_round.j2] at h⟩
 | k + 1 => by
  obtain ⟨ih0, ih1, ih2⟩ := valid_round.mono_l k
  refine ⟨?_, ?_, ?_⟩
  ·intro y0 y1 y2 y3 y4 y5
   unfold valid_round.l0
   repeat' first
   | (with_reducible exact ih0 _ _ _ _ _ _)
   | (with_reducible exact ih1 _ _ _ _ _ _ _ _ _)
   | (with_reducible exact ih2 _ _ _ _ _ _ _ _ _ _ _ _)
   | (with_reducible exact graph_Next.mono _ _ _ _)
   | (with_reducible exact LeO.refl _)
   | (with_reducible exact LeO.none _)
   | (with_reducible refine LeO.ite ?_ ?_)
   | (with_reducible refine LeO.bind ?_ (fun _ => ?_))
   | exact ih0 _ _ _ _ _ _
   | exact ih1 _ _ _ _ _ _ _ _ _
   | exact ih2 _ _ _ _ _ _ _ _ _ _ _ _
   | exact graph_Next.mono _ _ _ _
   | exact LeO.none _
   | refine LeO.ite ?_ ?_
   | refine LeO.bind ?_ (fun _ => ?_)
  ·intro y0 y1 y2 y3 y4 y5 y6 y7 y8
   unfold valid_round.l1
   repeat' first
   | (with_reducible exact ih0 _ _ _ _ _ _)
   | (with_reducible exact ih1 _ _ _ _ _ _ _ _ _)
   | (with_reducible exact ih2 _ _ _ _ _ _ _ _ _ _ _ _)
   | (with_reducible exact graph_Next.mono _ _ _ _)
   | (with_reducible exact LeO.refl _)
   | (with_reducible exact LeO.none _)
   | (with_reducible refine LeO.ite ?_ ?_)
   | (with_reducible refine LeO.bind ?_ (fun _ => ?_))
   | exact ih0 _ _ _ _ _ _
   | exact ih1 _ _ _ _ _ _ _ _ _
   | exact ih2 _ _ _ _ _ _ _ _ _ _ _ _
   | exact graph_Next.mono _ _ _ _
   | exact LeO.none _
   | refine LeO.ite ?_ ?_
   | refine LeO.bind ?_ (fun _ => ?_)
  ·intro y0 y1 y2 y3 y4 y5 y6 y7 y8 y9 y10 y11
   unfold valid_round.j2
   repeat' first
   | (with_reducible exact ih0 _ _ _ _ _ _)
   | (with_reducible exact ih1 _ _ _ _ _ _ _ _ _)
   | (with_reducible exact ih2 _ _ _ _ _ _ _ _ _ _ _ _)
   | (with_reducible exact graph_Next.mono _ _ _ _)
   | (with_reducible exact LeO.refl _)
   | (with_reducible exact LeO.none _)
   | (with_reducible refine LeO.ite ?_ ?_)
   | (with_reducible refine LeO.bind ?_ (fun _ => ?_))
   | exact ih0 _ _ _ _ _ _
   | exact ih1 _ _ _ _ _ _ _ _ _
   | exact ih2 _ _ _ _ _ _ _ _ _ _ _ _
   | exact graph_Next.mono _ _ _ _
   | exact LeO.none _
   | refine LeO.ite ?_ ?_
   | refine LeO.bind ?_ (fun _ => ?_)
theorem valid_round.mono : ∀ a0 a1 a2 k, LeO (valid_round.f k a0 a1 a2) (valid_round.f (k + 1) a0 a1 a2) := by
 intro a0 a1 a2 k
 obtain ⟨ih0, ih1, ih2⟩ := valid_round.mono_l k
 unfold valid_round.f
 repeat' first
   | (with_reducible exact ih0 _ _ _ _ _ _)
   | (with_reducible exact ih1 _ _ _ _ _ _ _ _ _)
   | (with_reducible exact ih2 _ _ _ _ _ _ _ _ _ _ _ _)
   | (with_reducible exact graph_Next.mono _ _ _ _)
   | (with_reducible exact LeO.refl _)
   | (with_reducible exact LeO.none _)
   | (with_reducible refine LeO.ite ?_ ?_)
   | (with_reducible refine LeO.bind ?_ (fun _ => ?_))
   | exact ih0 _ _ _ _ _ _
   | exact ih1 _ _ _ _ _ _ _ _ _
   | exact ih2 _ _ _ _ _ _ _ _ _ _ _ _
   | exact graph_Next.mono _ _ _ _
   | exact LeO.none _
   | refine LeO.ite ?_ ?_
   | refine LeO.bind ?_ (fun _ => ?_)
set_option maxHeartbeats 8000000 in
set_option maxRecDepth 100000 in
theorem valid_round.calls (k : Nat) (A0_0 : Option Addr) (c0_0 : Nat) (l0_0 : List (S40)) (A0_1 : Option Addr) (c0_1 : Nat) (l0_1 : List (S42)) (a1 : Int) (r : Bool) (w : World) (hr0_0 : Kd.C k40 w A0_0 l0_0.length l0_0) (hc0_0 : l0_0.length ≤ c0_0) (hr0_1 : Kd.C k42 w A0_1 l0_1.length l0_1) (hc0_1 : l0_1.length ≤ c0_1) (h : valid_round.f k l0_0 l0_1 a1 = some r) :
  Calls Tryd.prog 67 #[.agg #[.slice A0_0 l0_0.length c0_0, .slice A0_1 l0_1.length c0_1], .int .i64 a1] w fun e w' => e = .returned (.bool r) ∧ Below w.heap.size w w' := by
 have hu27 := Tryd.underlying27
 have hu40 := Tryd.underlying40
 have hu82 := Tryd.underlying82
 have HR0_0 := ZM hr0_0
 have HC0_0 := ZM hc0_0
 clear hr0_0 hc0_0
 have HR0_1 := ZM hr0_1
 have HC0_1 := ZM hc0_1
 clear hr0_1 hc0_1
 have HB := ZM (Below.refl w.heap.size w)
 have H : (if 0 ≤ a1 then (if a1 < (l0_0.length : Int) then ((valid_low.f ((rd_T40 l0_0 a1).f0) ((rd_T40 l0_0 a1).f1) ((rd_T40 l0_0 a1).f2) ((rd_T40 l0_0 a1).f3)).bind fun t167 => (if 0 ≤ (l0_0.length : Int) then (if ((l0_0.length : Int) : Int).toNat ≤ 281474976710656 then (valid_round.l0 k a1 t167 (List.replicate ((l0_0.length : Int) : Int).toNat false) (([a1] : List Int)) l0_0 l0_1) else (none)) else (none))) else (none)) else (none)) = some r := h
 clear h
 by_cases c3 : 0 ≤ a1
 case neg =>
  rw [if_neg c3] at H
  exact absurd H (by simp)

 rw [if_pos c3] at H
 have c3b0 : decide (0 ≤ a1) = true := decide_eq_true c3
 clear c3
 by_cases c4 : a1 < (l0_0.length : Int)
 case neg =>
  rw [if_neg c4] at H
  exact absurd H (by simp)
 rw [if_pos c4] at H
 have c4b0 : decide (a1 < (l0_0.length : Int)) = true := decide_eq_true c4
 clear c4
 replace H := Option.bind_eq_some_iff.mp H
 obtain ⟨t167, A50, H⟩ := H
 replace H : (if 0 ≤ (l0_0.length : Int) then (if ((l0_0.length : Int) : Int).toNat ≤ 281474976710656 then (valid_round.l0 k a1 t167 (List.replicate ((l0_0.length : Int) : Int).toNat false) (([a1] : List Int)) l0_0 l0_1) else (none)) else (none)) = some r := H
 have A5 := ZM A50
 clear A50
 by_cases c6 : 0 ≤ (l0_0.length : Int)
 case neg =>
  rw [if_neg c6] at H
  exact absurd H (by simp)
 rw [if_pos c6] at H
 have c6b0 := eq_true c6
 have c6b1 : decide (0 ≤ (l0_0.length : Int)) = true := decide_eq_true c6
 clear c6
 by_cases c7 : ((l0_0.length : Int) : Int).toNat ≤ 281474976710656
 case neg =>
  rw [if_neg c7] at H
  exact absurd H (by simp)
 rw [if_pos c7] at H
 have c7b0 := eq_true c7
 have c7b1 : decide (((l0_0.length : Int) : Int).toNat ≤ 281474976710656) = true := decide_eq_true c7
 clear c7
 obtain ⟨y168, hy168⟩ : ∃ y_ : List Bool, y_ = (List.replicate ((l0_0.length : Int) : Int).toNat false) := ⟨_, rfl⟩
 replace H : (valid_round.l0 k a1 t167 y168 (([a1] : List Int)) l0_0 l0_1) = some r := by first | (rw [hy168]; with_reducible exact H) | (have H2_ := (Option.bind_some _ _).symm.trans H; rw [hy168]; with_reducible exact H2_) | (have H2_ := (Option.bind_some _ _).symm.trans H; with_reducible exact H2_) | with_reducible exact H | (rw [hy168]; exact H) | exact H
 have Ny168 := ZM hy168
 clear hy168
 obtain ⟨y171, hy171⟩ : ∃ y_ : List Int, y_ = (([a1] : List Int)) := ⟨_, rfl⟩
 replace H : (valid_round.l0 k a1 t167 y168 y171 l0_0 l0_1) = some r := by first | (rw [hy171]; with_reducible exact H) | (have H2_ := (Option.bind_some _ _).symm.trans H; rw [hy171]; with_reducible exact H2_) | (have H2_ := (Option.bind_some _ _).symm.trans H; with_reducible exact H2_) | with_reducible exact H | (rw [hy171]; exact H) | exact H
 have Ny171 := ZM hy171
 clear hy171
 have H' := ZM H
 clear H
 go_enter Tryd.func67, Tryd.ntmps67
 go_wp2_with (first | ((with_reducible refine gate_dst (N := 2) rfl ?_); refine ZBX 2 (cs := #[.slice A0_0 l0_0.length c0_0, .slice A0_1 l0_1.length c0_1]) (t := 27) ?_; intro gb165 hg w8 hbox hb; have n0_ := ZM (ZW (ZBB HB.out) hb); have n1_ := ZM (hbox); have n2_ := ZM (ZGE hg HB.out); have n3_ := ZM (ZGE hg HB.out); clear HB; have HB := n0_; have BK165 := n1_; have GW165 := n2_; have GE165 := n3_; clear n0_ n1_ n2_ n3_; clear hb hbox hg; obtain ⟨hcz9_0, hcz9_1, hfz9_0, hfz9_1⟩ := ZC2 BK165.out; have p166 : 0 ≤ (a1 : Int) := ZOD; have q166 : a1 < (l0_0.length : Int) := ZOD; obtain ⟨ad166, e166, hx166_0, hx166_1, hx166_2, hx166_3⟩ := at_T40 HR0_0.out a1 p166 q166; cases e166; replace hx166_0 := ZHX HB.out hx166_0; replace hx166_1 := ZHX HB.out hx166_1; replace hx166_2 := ZHX HB.out hx166_2; replace hx166_3 := ZHX HB.out hx166_3; replace p166 := eq_true p166; replace q166 := eq_true q166))
 go_step3
 go_wp2_with (first | ((with_reducible refine gate_callee (f := 84) rfl ?_); refine goesL_ (some 17) rfl rfl Tryd.func84 (by kernel_rfl) rfl #[.agg #[.int .i64 ((rd_T40 l0_0 a1).f0), .int .i64 ((rd_T40 l0_0 a1).f1), .int .i64 ((rd_T40 l0_0 a1).f2), .int .i64 ((rd_T40 l0_0 a1).f3)]] rfl ZH ?_; (with_reducible refine (valid_low.calls ((rd_T40 l0_0 a1).f0) ((rd_T40 l0_0 a1).f1) ((rd_T40 l0_0 a1).f2) ((rd_T40 l0_0 a1).f3) t167 _ A5.out).mono ?_); rintro e w10 ⟨rfl, hb⟩; refine ⟨_, rfl, ?_⟩; have n0_ := ZM (blk_below (ZBK BK165.out) hb); have n1_ := ZM (ZW (ZBB HB.out) hb); clear BK165; clear HB; have BK165 := n0_; have HB := n1_; clear n0_ n1_; (try clear hb); (try clear hb2); (try clear hk); (try clear hi); obtain ⟨hcz11_0, hcz11_1, hfz11_0, hfz11_1⟩ := ZC2 BK165.out) | ((with_reducible refine gate_dst (N := 21) rfl ?_); refine Kd.R_make Kd.bool _ 4 rfl (N := 21) rfl 87 _ _ rfl (l0_0.length : Int) rfl rfl Tryd.underlying87 (.bool false) 1 info4 rfl (by decide) (by omega) false (ok := fun _ => True) (okp := fun _ => True) rfl (fun _ hk => hk) trivial (ZOD) (Nat.le_trans (Nat.mul_le_mul_right _ (ZOD : (l0_0.length : Int).toNat ≤ 281474976710656)) (by omega)) (Below.refl _ _) (Nat.le_refl _) ?_; intro v169 w12 ho13 hb hg_ hnew_; clear hg_ hnew_; (first | rw [← Ny168.out] at ho13 | (simp only [Int.reduceToNat] at ho13; rw [← Ny168.out] at ho13)); have n0_ := ZM (Kd.R_lower ho13 (ZV (ZBB HB.out))); have n1_ := ZM (blk_below (ZBK BK165.out) hb); have n2_ := ZM (ZW (ZBB HB.out) hb); clear BK165; clear HB; have HO170 := n0_; have BK165 := n1_; have HB := n2_; clear n0_ n1_ n2_; clear hb ho13) | ((with_reducible refine gate_dst (N := 23) rfl ?_); refine Kd.R_lit (Kd.int .i64) _ 3 ?hg (N := 23) ?hd (xs := ([a1] : List Int)) (inner := [.int .i64 a1]) (ok := fun _ => True) (okp := fun _ => True) ?hr ?hp (fun _ hk => hk) trivial (Below.refl _ _) (Nat.le_refl _) (by simp) ?_; (case hd => rfl); (case hg => rfl); (case hr => first | (go_simp; done) | (go_simp; rfl)); (case hp => exact (Reps.one (show Kd.M (Kd.int .i64) _ _ _ a1 [.int .i64 a1] from rfl) (Reps.none _ _))); intro v172 w14 ho15 hb hg_ hnew_; clear hg_ hnew_; (first | rw [← Ny171.out] at ho15 | (simp only [Int.reduceToNat] at ho15; rw [← Ny171.out] at ho15)); have n0_ := ZM (Kd.R_below (ZRK HO170.out) hb); have n1_ := ZM (Kd.R_lower ho15 (ZV (ZBB HB.out))); have n2_ := ZM (blk_below (ZBK BK165.out) hb); have n3_ := ZM (ZW (ZBB HB.out) hb); clear HO170; clear BK165; clear HB; have HO170 := n0_; have HO173 := n1_; have BK165 := n2_; have HB := n3_; clear n0_ n1_ n2_ n3_; clear hb ho15))
 go_step3
 go_wp2_with (fail)
 go_loopg [7] k (fun kq v7 w' => ∃ (x6_1 : List Bool) (x7_1 : List Int), Aside0 (valid_round.l0 kq a1 t167 x6_1 x7_1 l0_0 l0_1 = some r) ∧ Aside0 (kq ≤ k) ∧ Aside0 (Kd.R Kd.bool 4 w' w.heap.size (fun _ => True) v169 x6_1) ∧ Aside0 (Kd.Q (Kd.int .i64) 3 w' w.heap.size (fun _ => True) v7 x7_1) ∧ Aside0 (w'.heap[gb165]? = some (.cells #[(.slice (some ad166) l0_0.length c0_0), (.slice A0_1 l0_1.length c0_1)] 27 (0, 0))) ∧ Aside0 (Below w.heap.size w w'))
 case atStart => exact ⟨(y168), (y171), H', ⟨Nat.le_refl _⟩, ⟨ZRK HO170.out⟩, ⟨Kd.Q_of_R (ZRK HO173.out)⟩, ⟨ZBK BK165.out⟩, ⟨ZBB HB.out⟩⟩
 case round =>
  clear H'
  try clear c3
  try clear c3b0
  try clear c4
  try clear c4b0
  try clear c6
  try clear c6b0
  try clear c6b1
  try clear c7
  try clear c7b0
  try clear c7b1
  try clear hcz11_0
  try clear hcz11_1
  try clear hcz9_0
  try clear hcz9_1
  try clear hfz11_0
  try clear hfz11_1
  try clear hfz9_0
  try clear hfz9_1
  try clear hx166_0
  try clear hx166_1
  try clear hx166_2
  try clear hx166_3
  try clear p166
  try clear q166
  obtain ⟨x6_1, x7_1, HA, HK1, HO_6, HO_7, BK165, HB⟩ := hrel
  cases gk with
  | zero => exact absurd HA.out (by simp [valid_round.l0])
  | succ k1 =>
   have H := HA.out
   clear HA
   simp only [valid_round.l0] at H
   by_cases c16 : (x7_1.length : Int) > 0
   ·rw [if_pos c16] at H
    have c16b0 : decide (0 < (x7_1.length : Int)) = true := decide_eq_true c16
    have c16b1 : decide (0 < x7_1.length) = true := decide_eq_true (by omega)
    clear c16
    by_cases c17 : 0 < (x7_1.length : Int)
    case neg =>
     rw [if_neg c17] at H
     exact absurd H (by simp)
    rw [if_pos c17] at H
    have c17b0 : decide (0 < (x7_1.length : Int)) = true := decide_eq_true c17
    have c17b1 : decide (0 < x7_1.length) = true := decide_eq_true (by omega)
    clear c17
    by_cases c18 : 1 ≤ (x7_1.length : Int)
    case neg =>
     rw [if_neg c18] at H
     exact absurd H (by simp)
    rw [if_pos c18] at H
    have c18b0 := eq_true c18
    have c18b1 : decide (1 ≤ (x7_1.length : Int)) = true := decide_eq_true c18
    clear c18
    obtain ⟨y176, hy176⟩ : ∃ y_ : List Int, y_ = (x7_1.drop (1 : Int).toNat) := ⟨_, rfl⟩
    replace H : ((graph_Next.f k1 l0_0 l0_1 (rd x7_1 0)).bind fun t179 => (valid_round.l1 k1 a1 t167 x6_1 y176 t179 (t179.length : Int) 0 l0_0 l0_1)) = some r := by first | (rw [hy176]; with_reducible exact H) | (have H2_ := (Option.bind_some _ _).symm.trans H; rw [hy176]; with_reducible exact H2_) | (have H2_ := (Option.bind_some _ _).symm.trans H; with_reducible exact H2_) | with_reducible exact H | (rw [hy176]; exact H) | exact H
    have Ny176 := ZM hy176
    clear hy176
    replace H := Option.bind_eq_some_iff.mp H
    obtain ⟨t179, A190, H⟩ := H
    replace H : (valid_round.l1 k1 a1 t167 x6_1 y176 t179 (t179.length : Int) 0 l0_0 l0_1) = some r := H
    have A19 := ZM A190
    clear A190
    have H' := ZM H
    clear H
    obtain ⟨Ao20, co20, eo20, _⟩ := Kd.Q_slice HO_7.out
    subst eo20
    have p175 : 0 ≤ (0 : Int) := (by omega)
    have q175 : 0 < (x7_1.length : Int) := ZOD
    obtain ⟨ad175, e175, hx175_0⟩ := Kd.at_int (Kd.Q_reads' HO_7.out).2.2 0 p175 q175
    cases e175
    have qi175 : (0 < x7_1.length) = True := eq_true (by omega)
    (try rw [show ((0 : Int)).toNat = 0 from rfl] at hx175_0)
    (try rw [Addr.add_zero'] at hx175_0)
    replace p175 := eq_true p175
    replace q175 := eq_true q175
    have q21 : (1 : Int) ≤ ((x7_1.length : Int) : Int) := ZOD
    obtain ⟨i021, hi021, _, hsz21, _⟩ := info_parts info3
    have hcut21 := cut_from (P := Tryd.prog) 61 3 .i64 Tryd.underlying61 hi021 1 hsz21 (some ad175) x7_1.length co20 1 (by omega) q21
    have hr21 := Kd.Q_drop (k := (1 : Int).toNat) HO_7.out (by omega)
    obtain ⟨A21, hA21⟩ : ∃ A1, A1 = (if co20 = (1 : Int).toNat then (some ad175) else ((some ad175) : Option Addr).map (·.add ((1 : Int).toNat * 1))) := ⟨_, rfl⟩
    obtain ⟨c21, hc21⟩ : ∃ c1, c1 = co20 - (1 : Int).toNat := ⟨_, rfl⟩
    have hy21 : y176.length = x7_1.length - (1 : Int).toNat := (by rw [Ny176.out, List.length_drop])
    rw [← Ny176.out] at hr21
    rw [← hy21, ← hA21, ← hc21] at hcut21
    replace hr21 : Kd.Q (Kd.int .i64) 3 wr w.heap.size (fun _ => True) (.slice A21 y176.length c21) y176 := (by rw [hA21, hc21, hy21]; exact hr21)
    have HE21 : Aside0 ((Value.slice A21 y176.length c21).ownBlock = (.slice (some ad175) x7_1.length co20 : Value).ownBlock) := ⟨by rw [hA21]; split <;> (cases ((some ad175) : Option Addr) <;> rfl)⟩
    clear hy21 hi021 hsz21 HO_7 hA21 hc21
    have HO178 := ZM hr21
    clear hr21
    replace q21 := eq_true q21
    obtain ⟨hcz22_0, hcz22_1, hfz22_0, hfz22_1⟩ := ZC2 BK165.out
    go_wp2_with (first | ((with_reducible refine gate_callee (f := 85) rfl ?_); refine goesL_ (some 34) rfl rfl Tryd.func85 (by kernel_rfl) rfl #[.agg #[.slice (some ad166) l0_0.length c0_0, .slice A0_1 l0_1.length c0_1], .int .i64 (rd x7_1 0)] rfl ZH ?_; (with_reducible refine (graph_Next.calls k1 _ _ l0_0 _ _ l0_1 (rd x7_1 0) t179 _ ?side1 ?side2 ?side3 ?side4 A19.out).mono ?_); (case side1 => repeat (first | exact (Kd.C_below HR0_0.out HB.out) | (with_reducible refine Kd.C_alloc ?_ _) | (with_reducible refine Kd.C_drewN ?_ _) | (with_reducible refine Kd.C_drew ?_))); (case side2 => exact HC0_0.out); (case side3 => repeat (first | exact (Kd.C_below HR0_1.out HB.out) | (with_reducible refine Kd.C_alloc ?_ _) | (with_reducible refine Kd.C_drewN ?_ _) | (with_reducible refine Kd.C_drew ?_))); (case side4 => exact HC0_1.out); rintro e w23 ⟨v180, rfl, ho0, hb⟩; refine ⟨_, rfl, ?_⟩; have n0_ := ZM (Kd.R_below (ZRK HO_6.out) hb); have n1_ := ZM (Kd.Q_below (by (with_reducible repeat (first | apply Kd.Q_alloc | apply Kd.Q_drewN | apply Kd.Q_drew)); exact HO178.out) hb); have n2_ := ZM (Kd.R_lower ho0 (ZV (ZBB HB.out))); have n3_ := ZM (blk_below (ZBK BK165.out) hb); have n4_ := ZM (ZW (ZBB HB.out) hb); clear HO_6; clear HO178; clear BK165; clear HB; have HO_6 := n0_; have HO178 := n1_; have HO181 := n2_; have BK165 := n3_; have HB := n4_; clear n0_ n1_ n2_ n3_ n4_; (try clear hb); (try clear hb2); (try clear hk); (try clear hi); (try clear ho0); obtain ⟨Ao24, co24, eo24⟩ := Kd.R_slice HO181.out; subst eo24))
    go_loopg [7, 36] k1 (fun kq v7 v36 w' => ∃ (x6_2 : List Bool) (x7_2 : List Int) (x36_2 : Int), v36 = .int .i64 x36_2 ∧ Aside0 (valid_round.l1 kq a1 t167 x6_2 x7_2 t179 (t179.length : Int) x36_2 l0_0 l0_1 = some r) ∧ Aside0 (kq ≤ k1) ∧ Aside0 (Kd.R Kd.bool 4 w' w.heap.size (fun _ => True) v169 x6_2) ∧ Aside0 (Kd.Q (Kd.int .i64) 3 w' w.heap.size (fun _ => True) v7 x7_2) ∧ Aside0 (Kd.R k82 82 w' w.heap.size (fun _ => True) (.slice Ao24 t179.length co24) t179) ∧ Aside0 (w'.heap[gb165]? = some (.cells #[(.slice (some ad166) l0_0.length c0_0), (.slice A0_1 l0_1.length c0_1)] 27 (0, 0))) ∧ Aside0 (Below w.heap.size w w'))
    case atStart => exact ⟨(x6_1), (y176), (0), ZE, H', ⟨Nat.le_refl _⟩, ⟨ZRK HO_6.out⟩, ⟨by (with_reducible repeat (first | apply Kd.Q_alloc | apply Kd.Q_drewN | apply Kd.Q_drew)); exact HO178.out⟩, ⟨ZRK HO181.out⟩, ⟨ZBK BK165.out⟩, ⟨ZBB HB.out⟩⟩
    case round =>
     clear H'
     try clear c1
     try clear c3
     try clear c3b0
     try clear c4
     try clear c4b0
     try clear c6
     try clear c6b0
     try clear c6b1
     try clear c7
     try clear c7b0
     try clear c7b1
     try clear c16
     try clear c16b0
     try clear c16b1
     try clear c17
     try clear c17b0
     try clear c17b1
     try clear c18
     try clear c18b0
     try clear c18b1
     try clear c21
     try clear q21
     try clear hcz11_0
     try clear hcz11_1
     try clear hcz22_0
     try clear hcz22_1
     try clear hcz9_0
     try clear hcz9_1
     try clear hfz11_0
     try clear hfz11_1
     try clear hfz22_0
     try clear hfz22_1
     try clear hfz9_0
     try clear hfz9_1
     try clear hx166_0
     try clear hx166_1
     try clear hx166_2
     try clear hx166_3
     try clear hx175_0
     try clear p166
     try clear p175
     try clear q166
     try clear q175
     try clear q21
     obtain ⟨x6_2, x7_2, x36_2, rfl, HA, HK2, HO_6, HO_7, HO_34, BK165, HB⟩ := hrel
     cases gk with
     | zero => exact absurd HA.out (by simp [valid_round.l1])
     | succ k2 =>
      have H := HA.out
      clear HA
      simp only [valid_round.l1] at H
      by_cases c25 : x36_2 < (t179.length : Int)
      ·rw [if_pos c25] at H
       have c25b0 : decide (x36_2 < (t179.length : Int)) = true := decide_eq_true c25
       clear c25
       by_cases c26 : 0 ≤ x36_2
       case neg =>
        rw [if_neg c26] at H
        exact absurd H (by simp)
       rw [if_pos c26] at H
       have c26b0 : decide (0 ≤ x36_2) = true := decide_eq_true c26
       clear c26
       by_cases c27 : x36_2 < (t179.length : Int)
       case neg =>
        rw [if_neg c27] at H
        exact absurd H (by simp)
       rw [if_pos c27] at H
       have c27b0 : decide (x36_2 < (t179.length : Int)) = true := decide_eq_true c27
       clear c27
       by_cases c28 : 0 ≤ ((rd_T82 t179 x36_2).f0)
       case neg =>
        rw [if_neg c28] at H
        exact absurd H (by simp)
       rw [if_pos c28] at H
       have c28b0 : decide (0 ≤ ((rd_T82 t179 x36_2).f0)) = true := decide_eq_true c28
       clear c28
       by_cases c29 : ((rd_T82 t179 x36_2).f0) < (l0_0.length : Int)
       case neg =>
        rw [if_neg c29] at H
        exact absurd H (by simp)
       rw [if_pos c29] at H
       have c29b0 : decide (((rd_T82 t179 x36_2).f0) < (l0_0.length : Int)) = true := decide_eq_true c29
       clear c29
       by_cases c30 : ((rd_T82 t179 x36_2).f0) < (x6_2.length : Int)
       case neg =>
        rw [if_neg c30] at H
        exact absurd H (by simp)
       rw [if_pos c30] at H
       have c30b0 : decide (((rd_T82 t179 x36_2).f0) < (x6_2.length : Int)) = true := decide_eq_true c30
       clear c30
       have HC31 := ZM H
       clear H
       have p182 : 0 ≤ (x36_2 : Int) := ZOD
       have q182 : x36_2 < (t179.length : Int) := ZOD
       obtain ⟨ad182, e182, hx182_0, hx182_1⟩ := at_T82 (Kd.R_reads' HO_34.out).2.2 x36_2 p182 q182
       cases e182
       replace p182 := eq_true p182
       replace q182 := eq_true q182
       go_upto_if 46 with (first | ((with_reducible refine gate_dst (N := 10) rfl ?_); refine ZBX 10 (cs := #[.int .i64 0, .int .i64 0]) (t := 82) ?_; intro gb183 hg w32 hbox hb; have n0_ := ZM (Kd.R_below (ZRK HO_6.out) hb); have n1_ := ZM (Kd.Q_below (by (with_reducible repeat (first | apply Kd.Q_alloc | apply Kd.Q_drewN | apply Kd.Q_drew)); exact HO_7.out) hb); have n2_ := ZM (Kd.R_below (Kd.R_elderB (ZRK HO_34.out) gb183 (Nat.le_of_eq hg.symm)) hb); have n3_ := ZM (blk_below (ZBK BK165.out) hb); have n4_ := ZM (ZW (ZBB HB.out) hb); have n5_ := ZM (hbox); have n6_ := ZM (ZGE hg HB.out); have n7_ := ZM (ZGE hg HB.out); have n8_ := ZM (ZNE hg BK165.out); have n9_ := ZM (ZNG hg BK165.out); clear HO_6; clear HO_7; clear HO_34; clear BK165; clear HB; have HO_6 := n0_; have HO_7 := n1_; have HO_34 := n2_; have BK165 := n3_; have HB := n4_; have BK183 := n5_; have GW183 := n6_; have GE183 := n7_; have NB165_183 := n8_; have NB183_165 := n9_; clear n0_ n1_ n2_ n3_ n4_ n5_ n6_ n7_ n8_ n9_; clear hb hbox hg; have hnb33 := NB183_165.out; have hnc33 := NB165_183.out; obtain ⟨hcz34_0, hcz34_1, hfz34_0, hfz34_1⟩ := ZC2 BK183.out; obtain ⟨hcz35_0, hcz35_1, hfz35_0, hfz35_1⟩ := ZC2 BK165.out; have p184 : 0 ≤ (((rd_T82 t179 x36_2).f0) : Int) := ZOD; have q184 : ((rd_T82 t179 x36_2).f0) < (l0_0.length : Int) := ZOD; obtain ⟨ad184, e184, hx184_0, hx184_1, hx184_2, hx184_3⟩ := at_T40 HR0_0.out ((rd_T82 t179 x36_2).f0) p184 q184; obtain rfl : ad166 = ad184 := (by injection e184); have hn184_0 : ad166.block ≠ gb183 := Nat.ne_of_lt (Nat.lt_of_lt_of_le (by have := ZC _ _ hx184_0; first | rwa [add_block] at this | exact this) GW183.out); have hn184_1 : ad166.block ≠ gb183 := Nat.ne_of_lt (Nat.lt_of_lt_of_le (by have := ZC _ _ hx184_0; first | rwa [add_block] at this | exact this) GW183.out); replace hx184_0 := ZHX HB.out hx184_0; replace hx184_1 := ZHX HB.out hx184_1; replace hx184_2 := ZHX HB.out hx184_2; replace hx184_3 := ZHX HB.out hx184_3; replace hx184_0 := (cell_far (p := ⟨gb183, 0, none⟩) (by first | (rw [add_block]; exact hn184_0) | (show (Addr.add _ _).block ≠ _; rw [add_block]; exact hn184_0) | exact hn184_0) (.int .i64 ((rd_T82 t179 x36_2).f0))).trans hx184_0; replace hx184_1 := (cell_far (p := ⟨gb183, 0, none⟩) (by first | (rw [add_block]; exact hn184_0) | (show (Addr.add _ _).block ≠ _; rw [add_block]; exact hn184_0) | exact hn184_0) (.int .i64 ((rd_T82 t179 x36_2).f0))).trans hx184_1; replace hx184_2 := (cell_far (p := ⟨gb183, 0, none⟩) (by first | (rw [add_block]; exact hn184_0) | (show (Addr.add _ _).block ≠ _; rw [add_block]; exact hn184_0) | exact hn184_0) (.int .i64 ((rd_T82 t179 x36_2).f0))).trans hx184_2; replace hx184_3 := (cell_far (p := ⟨gb183, 0, none⟩) (by first | (rw [add_block]; exact hn184_0) | (show (Addr.add _ _).block ≠ _; rw [add_block]; exact hn184_0) | exact hn184_0) (.int .i64 ((rd_T82 t179 x36_2).f0))).trans hx184_3; replace hx184_0 := (cell_far (p := ⟨gb183, 1, none⟩) (by first | (rw [add_block]; exact hn184_1) | (show (Addr.add _ _).block ≠ _; rw [add_block]; exact hn184_1) | exact hn184_1) (.int .i64 ((rd_T82 t179 x36_2).f1))).trans hx184_0; replace hx184_1 := (cell_far (p := ⟨gb183, 1, none⟩) (by first | (rw [add_block]; exact hn184_1) | (show (Addr.add _ _).block ≠ _; rw [add_block]; exact hn184_1) | exact hn184_1) (.int .i64 ((rd_T82 t179 x36_2).f1))).trans hx184_1; replace hx184_2 := (cell_far (p := ⟨gb183, 1, none⟩) (by first | (rw [add_block]; exact hn184_1) | (show (Addr.add _ _).block ≠ _; rw [add_block]; exact hn184_1) | exact hn184_1) (.int .i64 ((rd_T82 t179 x36_2).f1))).trans hx184_2; replace hx184_3 := (cell_far (p := ⟨gb183, 1, none⟩) (by first | (rw [add_block]; exact hn184_1) | (show (Addr.add _ _).block ≠ _; rw [add_block]; exact hn184_1) | exact hn184_1) (.int .i64 ((rd_T82 t179 x36_2).f1))).trans hx184_3; clear hn184_0; clear hn184_1; replace p184 := eq_true p184; replace q184 := eq_true q184) | ((with_reducible refine gate_dst (N := 11) rfl ?_); refine ZBX 11 (cs := #[.int .i64 0, .int .i64 0, .int .i64 0, .int .i64 0]) (t := 40) ?_; intro gb185 hg w36 hbox hb; have n0_ := ZM (Kd.R_below (by (with_reducible repeat (first | apply ZY | apply ZX | apply ZZ)); exact (Kd.R_mono (Kd.R_far (p := ⟨gb183, 1, none⟩) (Kd.R_far (p := ⟨gb183, 0, none⟩) (Kd.R_types HO_6.out BK183.out (by decide)) (fun _ hk => hk.2) (.int .i64 ((rd_T82 t179 x36_2).f0))) (fun _ hk => hk.2) (.int .i64 ((rd_T82 t179 x36_2).f1))) (fun _ h_ => h_.1))) hb); have n1_ := ZM (Kd.Q_below (by (with_reducible repeat (first | apply Kd.Q_alloc | apply Kd.Q_drewN | apply Kd.Q_drew)); exact (Kd.Q_mono (Kd.Q_far (p := ⟨gb183, 1, none⟩) (Kd.Q_far (p := ⟨gb183, 0, none⟩) (Kd.Q_types HO_7.out BK183.out (by decide)) (fun _ hk => hk.2) (.int .i64 ((rd_T82 t179 x36_2).f0))) (fun _ hk => hk.2) (.int .i64 ((rd_T82 t179 x36_2).f1))) (fun _ h_ => h_.1))) hb); have n2_ := ZM (Kd.R_below (by (with_reducible repeat (first | apply ZY | apply ZX | apply ZZ)); exact (Kd.R_mono (Kd.R_far (p := ⟨gb183, 1, none⟩) (Kd.R_far (p := ⟨gb183, 0, none⟩) (Kd.R_mono HO_34.out (fun k_ hk => (⟨hk, hk.2⟩ : _ ∧ k_ ≠ gb183))) (fun _ hk => hk.2) (.int .i64 ((rd_T82 t179 x36_2).f0))) (fun _ hk => hk.2) (.int .i64 ((rd_T82 t179 x36_2).f1))) (fun _ h_ => h_.1))) hb); have n3_ := ZM (blk_below (g := gb165) (o := .cells #[.slice (some ad166) l0_0.length c0_0, .slice A0_1 l0_1.length c0_1] 27 (0, 0)) (ZBF BK165.out NB165_183.out) hb); have n4_ := ZM (blk_below (g := gb183) (o := .cells #[.int .i64 ((rd_T82 t179 x36_2).f0), .int .i64 ((rd_T82 t179 x36_2).f1)] 82 (0, 0)) (by (with_reducible repeat (first | refine ZR ?_ _ | refine ZS ?_ | refine ZT ?_ _)); refine blk_put (cs := #[.int .i64 ((rd_T82 t179 x36_2).f0), .int .i64 0]) ?_ 1 _ rfl; (with_reducible repeat (first | refine ZR ?_ _ | refine ZS ?_ | refine ZT ?_ _)); refine blk_put (cs := #[.int .i64 0, .int .i64 0]) ?_ 0 _ rfl; (with_reducible repeat (first | refine ZR ?_ _ | refine ZS ?_ | refine ZT ?_ _)); exact BK183.out) hb); have n5_ := ZM (ZW (ZBB HB.out) hb); have n6_ := ZM (hbox); have n7_ := ZM (ZGE hg HB.out); have n8_ := ZM (ZGE hg HB.out); have n9_ := ZM ((by rw [hg]; exact Nat.ne_of_lt (blk_lt (g := gb165) (o := .cells #[.slice (some ad166) l0_0.length c0_0, .slice A0_1 l0_1.length c0_1] 27 (0, 0)) (ZBF BK165.out NB165_183.out)) : gb165 ≠ gb185)); have n10_ := ZM ((by rw [hg]; exact Nat.ne_of_gt (blk_lt (g := gb165) (o := .cells #[.slice (some ad166) l0_0.length c0_0, .slice A0_1 l0_1.length c0_1] 27 (0, 0)) (ZBF BK165.out NB165_183.out)) : gb185 ≠ gb165)); have n11_ := ZM ((by rw [hg]; exact Nat.ne_of_lt (blk_lt (g := gb183) (o := .cells #[.int .i64 ((rd_T82 t179 x36_2).f0), .int .i64 ((rd_T82 t179 x36_2).f1)] 82 (0, 0)) (by (with_reducible repeat (first | refine ZR ?_ _ | refine ZS ?_ | refine ZT ?_ _)); refine blk_put (cs := #[.int .i64 ((rd_T82 t179 x36_2).f0), .int .i64 0]) ?_ 1 _ rfl; (with_reducible repeat (first | refine ZR ?_ _ | refine ZS ?_ | refine ZT ?_ _)); refine blk_put (cs := #[.int .i64 0, .int .i64 0]) ?_ 0 _ rfl; (with_reducible repeat (first | refine ZR ?_ _ | refine ZS ?_ | refine ZT ?_ _)); exact BK183.out)) : gb183 ≠ gb185)); have n12_ := ZM ((by rw [hg]; exact Nat.ne_of_gt (blk_lt (g := gb183) (o := .cells #[.int .i64 ((rd_T82 t179 x36_2).f0), .int .i64 ((rd_T82 t179 x36_2).f1)] 82 (0, 0)) (by (with_reducible repeat (first | refine ZR ?_ _ | refine ZS ?_ | refine ZT ?_ _)); refine blk_put (cs := #[.int .i64 ((rd_T82 t179 x36_2).f0), .int .i64 0]) ?_ 1 _ rfl; (with_reducible repeat (first | refine ZR ?_ _ | refine ZS ?_ | refine ZT ?_ _)); refine blk_put (cs := #[.int .i64 0, .int .i64 0]) ?_ 0 _ rfl; (with_reducible repeat (first | refine ZR ?_ _ | refine ZS ?_ | refine ZT ?_ _)); exact BK183.out)) : gb185 ≠ gb183)); clear HO_6; clear HO_7; clear HO_34; clear BK165; clear BK183; clear HB; have HO_6 := n0_; have HO_7 := n1_; have HO_34 := n2_; have BK165 := n3_; have BK183 := n4_; have HB := n5_; have BK185 := n6_; have GW185 := n7_; have GE185 := n8_; have NB165_185 := n9_; have NB185_165 := n10_; have NB183_185 := n11_; have NB185_183 := n12_; clear n0_ n1_ n2_ n3_ n4_ n5_ n6_ n7_ n8_ n9_ n10_ n11_ n12_; clear hb hbox hg; have hnb37 := NB185_165.out; have hnc37 := NB165_185.out; have hnb38 := NB185_183.out; have hnc38 := NB183_185.out; obtain ⟨hcz39_0, hcz39_1, hcz39_2, hcz39_3, hfz39_0, hfz39_1, hfz39_2, hfz39_3⟩ := ZC4 BK185.out; obtain ⟨hcz40_0, hcz40_1, hfz40_0, hfz40_1⟩ := ZC2 BK183.out; obtain ⟨Ao41, co41, eo41⟩ := Kd.R_slice HO_6.out; subst eo41; have p186 : 0 ≤ (((rd_T82 t179 x36_2).f0) : Int) := ZOD; have q186 : ((rd_T82 t179 x36_2).f0) < (x6_2.length : Int) := ZOD; obtain ⟨ad186, e186, hx186_0⟩ := Kd.at_bool (Kd.R_reads' HO_6.out).2.2 ((rd_T82 t179 x36_2).f0) p186 q186; cases e186; have hn186_0 : ad186.block ≠ gb185 := Kd.own_blk (Kd.R_ne HO_6.out BK185.out (by decide)); have hn186_1 : ad186.block ≠ gb185 := Kd.own_blk (Kd.R_ne HO_6.out BK185.out (by decide)); have hn186_2 : ad186.block ≠ gb185 := Kd.own_blk (Kd.R_ne HO_6.out BK185.out (by decide)); have hn186_3 : ad186.block ≠ gb185 := Kd.own_blk (Kd.R_ne HO_6.out BK185.out (by decide)); replace hx186_0 := (cell_far (p := ⟨gb185, 0, none⟩) (by first | (rw [add_block]; exact hn186_0) | (show (Addr.add _ _).block ≠ _; rw [add_block]; exact hn186_0) | exact hn186_0) (.int .i64 ((rd_T40 l0_0 ((rd_T82 t179 x36_2).f0)).f0))).trans hx186_0; replace hx186_0 := (cell_far (p := ⟨gb185, 1, none⟩) (by first | (rw [add_block]; exact hn186_1) | (show (Addr.add _ _).block ≠ _; rw [add_block]; exact hn186_1) | exact hn186_1) (.int .i64 ((rd_T40 l0_0 ((rd_T82 t179 x36_2).f0)).f1))).trans hx186_0; replace hx186_0 := (cell_far (p := ⟨gb185, 2, none⟩) (by first | (rw [add_block]; exact hn186_2) | (show (Addr.add _ _).block ≠ _; rw [add_block]; exact hn186_2) | exact hn186_2) (.int .i64 ((rd_T40 l0_0 ((rd_T82 t179 x36_2).f0)).f2))).trans hx186_0; replace hx186_0 := (cell_far (p := ⟨gb185, 3, none⟩) (by first | (rw [add_block]; exact hn186_3) | (show (Addr.add _ _).block ≠ _; rw [add_block]; exact hn186_3) | exact hn186_3) (.int .i64 ((rd_T40 l0_0 ((rd_T82 t179 x36_2).f0)).f3))).trans hx186_0; clear hn186_0; clear hn186_1; clear hn186_2; clear hn186_3; replace p186 := eq_true p186; replace q186 := eq_true q186))
       (try simp only [Act.put, ZI, ZJ, ZK])
       go_cut [46] (fun v46 wc => ∃ (kq : Nat) (x46_30 : Bool), v46 = .bool x46_30 ∧ Aside0 (valid_round.j2 kq a1 t167 x6_2 x7_2 t179 (t179.length : Int) x36_2 x46_30 l0_0 l0_1 ((rd_T82 t179 x36_2).f0) ((rd_T82 t179 x36_2).f1) = some r) ∧ Aside0 (kq ≤ k2) ∧ Aside0 (Kd.R Kd.bool 4 wc w.heap.size (fun _ => True) (.slice (some ad186) x6_2.length co41) x6_2) ∧ Aside0 (Kd.Q (Kd.int .i64) 3 wc w.heap.size (fun _ => True) u7 x7_2) ∧ Aside0 (Kd.R k82 82 wc w.heap.size (fun k_ => k_ ≠ gb183) (.slice (some ad182) t179.length co24) t179) ∧ Aside0 (wc.heap[gb165]? = some (.cells #[(.slice (some ad166) l0_0.length c0_0), (.slice A0_1 l0_1.length c0_1)] 27 (0, 0))) ∧ Aside0 (wc.heap[gb183]? = some (.cells #[.int .i64 ((rd_T82 t179 x36_2).f0), .int .i64 ((rd_T82 t179 x36_2).f1)] 82 (0, 0))) ∧ Aside0 (wc.heap[gb185]? = some (.cells #[.int .i64 ((rd_T40 l0_0 ((rd_T82 t179 x36_2).f0)).f0), .int .i64 ((rd_T40 l0_0 ((rd_T82 t179 x36_2).f0)).f1), .int .i64 ((rd_T40 l0_0 ((rd_T82 t179 x36_2).f0)).f2), .int .i64 ((rd_T40 l0_0 ((rd_T82 t179 x36_2).f0)).f3)] 40 (0, 0))) ∧ Aside0 (Below w.heap.size w wc))
       case first =>
        have H := HC31.out
        clear HC31
        obtain ⟨bq42, hbq42⟩ : ∃ b_ : Bool, b_ = (rdOf false x6_2 ((rd_T82 t179 x36_2).f0)) := ⟨_, rfl⟩
        replace H : (if bq42 = true then (valid_round.j2 k2 a1 t167 x6_2 x7_2 t179 (t179.length : Int) x36_2 bq42 l0_0 l0_1 ((rd_T82 t179 x36_2).f0) ((rd_T82 t179 x36_2).f1)) else ((valid_low.f ((rd_T40 l0_0 ((rd_T82 t179 x36_2).f0)).f0) ((rd_T40 l0_0 ((rd_T82 t179 x36_2).f0)).f1) ((rd_T40 l0_0 ((rd_T82 t179 x36_2).f0)).f2) ((rd_T40 l0_0 ((rd_T82 t179 x36_2).f0)).f3)).bind fun t187 => (if t187 < t167 then (valid_round.j2 k2 a1 t167 x6_2 x7_2 t179 (t179.length : Int) x36_2 (decide (t187 < t167)) l0_0 l0_1 ((rd_T82 t179 x36_2).f0) ((rd_T82 t179 x36_2).f1)) else (if ((rd_T40 l0_0 ((rd_T82 t179 x36_2).f0)).f0) = 10 then (valid_round.j2 k2 a1 t167 x6_2 x7_2 t179 (t179.length : Int) x36_2 (((rd_T40 l0_0 ((rd_T82 t179 x36_2).f0)).f3) == t167) l0_0 l0_1 ((rd_T82 t179 x36_2).f0) ((rd_T82 t179 x36_2).f1)) else (valid_round.j2 k2 a1 t167 x6_2 x7_2 t179 (t179.length : Int) x36_2 false l0_0 l0_1 ((rd_T82 t179 x36_2).f0) ((rd_T82 t179 x36_2).f1)))))) = some r := by rw [← hbq42] at H; exact H
        have Nbq42 := ZM hbq42
        clear hbq42
        (try rw [← Nbq42.out])
        by_cases c43 : bq42 = true
        ·subst c43
         have H1 : (valid_round.j2 k2 a1 t167 x6_2 x7_2 t179 (t179.length : Int) x36_2 true l0_0 l0_1 ((rd_T82 t179 x36_2).f0) ((rd_T82 t179 x36_2).f1)) = some r := by rw [if_pos rfl] at H; exact H
         clear H
         have H := H1
         clear H1
         have H' := ZM H
         clear H
         go_wp2
         go_meet
         case rel => exact ⟨_, (true), ZE, H', ⟨by have := HK1.out; have := HK2.out; first | omega | exact Nat.le_refl _⟩, ⟨by (with_reducible repeat (first | apply ZY | apply ZX | apply ZZ)); exact Kd.R_mono (Kd.R_far (p := ⟨gb185, 3, none⟩) (Kd.R_far (p := ⟨gb185, 2, none⟩) (Kd.R_far (p := ⟨gb185, 1, none⟩) (Kd.R_far (p := ⟨gb185, 0, none⟩) (Kd.R_types HO_6.out BK185.out (by decide)) (fun _ hk => hk.2) (.int .i64 ((rd_T40 l0_0 ((rd_T82 t179 x36_2).f0)).f0))) (fun _ hk => hk.2) (.int .i64 ((rd_T40 l0_0 ((rd_T82 t179 x36_2).f0)).f1))) (fun _ hk => hk.2) (.int .i64 ((rd_T40 l0_0 ((rd_T82 t179 x36_2).f0)).f2))) (fun _ hk => hk.2) (.int .i64 ((rd_T40 l0_0 ((rd_T82 t179 x36_2).f0)).f3))) (fun _ hk => trivial)⟩, ⟨by (with_reducible repeat (first | apply Kd.Q_alloc | apply Kd.Q_drewN | apply Kd.Q_drew)); exact Kd.Q_mono (Kd.Q_far (p := ⟨gb185, 3, none⟩) (Kd.Q_far (p := ⟨gb185, 2, none⟩) (Kd.Q_far (p := ⟨gb185, 1, none⟩) (Kd.Q_far (p := ⟨gb185, 0, none⟩) (Kd.Q_types HO_7.out BK185.out (by decide)) (fun _ hk => hk.2) (.int .i64 ((rd_T40 l0_0 ((rd_T82 t179 x36_2).f0)).f0))) (fun _ hk => hk.2) (.int .i64 ((rd_T40 l0_0 ((rd_T82 t179 x36_2).f0)).f1))) (fun _ hk => hk.2) (.int .i64 ((rd_T40 l0_0 ((rd_T82 t179 x36_2).f0)).f2))) (fun _ hk => hk.2) (.int .i64 ((rd_T40 l0_0 ((rd_T82 t179 x36_2).f0)).f3))) (fun _ hk => trivial)⟩, ⟨by (with_reducible repeat (first | apply ZY | apply ZX | apply ZZ)); exact Kd.R_mono (Kd.R_far (p := ⟨gb185, 3, none⟩) (Kd.R_far (p := ⟨gb185, 2, none⟩) (Kd.R_far (p := ⟨gb185, 1, none⟩) (Kd.R_far (p := ⟨gb185, 0, none⟩) (Kd.R_types HO_34.out BK185.out (by decide)) (fun _ hk => hk.2) (.int .i64 ((rd_T40 l0_0 ((rd_T82 t179 x36_2).f0)).f0))) (fun _ hk => hk.2) (.int .i64 ((rd_T40 l0_0 ((rd_T82 t179 x36_2).f0)).f1))) (fun _ hk => hk.2) (.int .i64 ((rd_T40 l0_0 ((rd_T82 t179 x36_2).f0)).f2))) (fun _ hk => hk.2) (.int .i64 ((rd_T40 l0_0 ((rd_T82 t179 x36_2).f0)).f3))) (fun _ hk => hk.1.2)⟩, ⟨ZBF BK165.out NB165_185.out⟩, ⟨ZBF BK183.out NB183_185.out⟩, ⟨by (with_reducible repeat (first | refine ZR ?_ _ | refine ZS ?_ | refine ZT ?_ _)); refine blk_put (cs := #[.int .i64 ((rd_T40 l0_0 ((rd_T82 t179 x36_2).f0)).f0), .int .i64 ((rd_T40 l0_0 ((rd_T82 t179 x36_2).f0)).f1), .int .i64 ((rd_T40 l0_0 ((rd_T82 t179 x36_2).f0)).f2), .int .i64 0]) ?_ 3 _ rfl; (with_reducible repeat (first | refine ZR ?_ _ | refine ZS ?_ | refine ZT ?_ _)); refine blk_put (cs := #[.int .i64 ((rd_T40 l0_0 ((rd_T82 t179 x36_2).f0)).f0), .int .i64 ((rd_T40 l0_0 ((rd_T82 t179 x36_2).f0)).f1), .int .i64 0, .int .i64 0]) ?_ 2 _ rfl; (with_reducible repeat (first | refine ZR ?_ _ | refine ZS ?_ | refine ZT ?_ _)); refine blk_put (cs := #[.int .i64 ((rd_T40 l0_0 ((rd_T82 t179 x36_2).f0)).f0), .int .i64 0, .int .i64 0, .int .i64 0]) ?_ 1 _ rfl; (with_reducible repeat (first | refine ZR ?_ _ | refine ZS ?_ | refine ZT ?_ _)); refine blk_put (cs := #[.int .i64 0, .int .i64 0, .int .i64 0, .int .i64 0]) ?_ 0 _ rfl; (with_reducible repeat (first | refine ZR ?_ _ | refine ZS ?_ | refine ZT ?_ _)); exact BK185.out⟩, ⟨ZBB HB.out⟩⟩
        ·replace c43 := Bool.eq_false_iff.mpr c43
         subst c43
         have H1 : ((valid_low.f ((rd_T40 l0_0 ((rd_T82 t179 x36_2).f0)).f0) ((rd_T40 l0_0 ((rd_T82 t179 x36_2).f0)).f1) ((rd_T40 l0_0 ((rd_T82 t179 x36_2).f0)).f2) ((rd_T40 l0_0 ((rd_T82 t179 x36_2).f0)).f3)).bind fun t187 => (if t187 < t167 then (valid_round.j2 k2 a1 t167 x6_2 x7_2 t179 (t179.length : Int) x36_2 (decide (t187 < t167)) l0_0 l0_1 ((rd_T82 t179 x36_2).f0) ((rd_T82 t179 x36_2).f1)) else (if ((rd_T40 l0_0 ((rd_T82 t179 x36_2).f0)).f0) = 10 then (valid_round.j2 k2 a1 t167 x6_2 x7_2 t179 (t179.length : Int) x36_2 (((rd_T40 l0_0 ((rd_T82 t179 x36_2).f0)).f3) == t167) l0_0 l0_1 ((rd_T82 t179 x36_2).f0) ((rd_T82 t179 x36_2).f1)) else (valid_round.j2 k2 a1 t167 x6_2 x7_2 t179 (t179.length : Int) x36_2 false l0_0 l0_1 ((rd_T82 t179 x36_2).f0) ((rd_T82 t179 x36_2).f1))))) = some r := by rw [if_neg (show ¬ (false = true) by decide)] at H; exact H
         clear H
         have H := H1
         clear H1
         replace H := Option.bind_eq_some_iff.mp H
         obtain ⟨t187, A440, H⟩ := H
         replace H : (if t187 < t167 then (valid_round.j2 k2 a1 t167 x6_2 x7_2 t179 (t179.length : Int) x36_2 (decide (t187 < t167)) l0_0 l0_1 ((rd_T82 t179 x36_2).f0) ((rd_T82 t179 x36_2).f1)) else (if ((rd_T40 l0_0 ((rd_T82 t179 x36_2).f0)).f0) = 10 then (valid_round.j2 k2 a1 t167 x6_2 x7_2 t179 (t179.length : Int) x36_2 (((rd_T40 l0_0 ((rd_T82 t179 x36_2).f0)).f3) == t167) l0_0 l0_1 ((rd_T82 t179 x36_2).f0) ((rd_T82 t179 x36_2).f1)) else (valid_round.j2 k2 a1 t167 x6_2 x7_2 t179 (t179.length : Int) x36_2 false l0_0 l0_1 ((rd_T82 t179 x36_2).f0) ((rd_T82 t179 x36_2).f1)))) = some r := H
         have A44 := ZM A440
         clear A440
         by_cases c45 : t187 < t167
         ·rw [if_pos c45] at H
          have c45b0 : decide (t187 < t167) = true := decide_eq_true c45
          clear c45
          have H' := ZM H
          clear H
          have hnb46 := NB185_165.out
          have hnc46 := NB165_185.out
          have hnb47 := NB185_183.out
          have hnc47 := NB183_185.out
          obtain ⟨hcz48_0, hcz48_1, hcz48_2, hcz48_3, hfz48_0, hfz48_1, hfz48_2, hfz48_3⟩ := ZC4 BK185.out
          go_wp2_with (first | ((with_reducible refine gate_callee (f := 84) rfl ?_); refine goesL_ (some 53) rfl rfl Tryd.func84 (by kernel_rfl) rfl #[.agg #[.int .i64 ((rd_T40 l0_0 ((rd_T82 t179 x36_2).f0)).f0), .int .i64 ((rd_T40 l0_0 ((rd_T82 t179 x36_2).f0)).f1), .int .i64 ((rd_T40 l0_0 ((rd_T82 t179 x36_2).f0)).f2), .int .i64 ((rd_T40 l0_0 ((rd_T82 t179 x36_2).f0)).f3)]] rfl ZH ?_; (with_reducible refine (valid_low.calls ((rd_T40 l0_0 ((rd_T82 t179 x36_2).f0)).f0) ((rd_T40 l0_0 ((rd_T82 t179 x36_2).f0)).f1) ((rd_T40 l0_0 ((rd_T82 t179 x36_2).f0)).f2) ((rd_T40 l0_0 ((rd_T82 t179 x36_2).f0)).f3) t187 _ A44.out).mono ?_); rintro e w49 ⟨rfl, hb⟩; refine ⟨_, rfl, ?_⟩; have n0_ := ZM (Kd.R_below (by (with_reducible repeat (first | apply ZY | apply ZX | apply ZZ)); exact (Kd.R_mono (Kd.R_far (p := ⟨gb185, 3, none⟩) (Kd.R_far (p := ⟨gb185, 2, none⟩) (Kd.R_far (p := ⟨gb185, 1, none⟩) (Kd.R_far (p := ⟨gb185, 0, none⟩) (Kd.R_types HO_6.out BK185.out (by decide)) (fun _ hk => hk.2) (.int .i64 ((rd_T40 l0_0 ((rd_T82 t179 x36_2).f0)).f0))) (fun _ hk => hk.2) (.int .i64 ((rd_T40 l0_0 ((rd_T82 t179 x36_2).f0)).f1))) (fun _ hk => hk.2) (.int .i64 ((rd_T40 l0_0 ((rd_T82 t179 x36_2).f0)).f2))) (fun _ hk => hk.2) (.int .i64 ((rd_T40 l0_0 ((rd_T82 t179 x36_2).f0)).f3))) (fun _ h_ => h_.1))) hb); have n1_ := ZM (Kd.Q_below (by (with_reducible repeat (first | apply Kd.Q_alloc | apply Kd.Q_drewN | apply Kd.Q_drew)); exact (Kd.Q_mono (Kd.Q_far (p := ⟨gb185, 3, none⟩) (Kd.Q_far (p := ⟨gb185, 2, none⟩) (Kd.Q_far (p := ⟨gb185, 1, none⟩) (Kd.Q_far (p := ⟨gb185, 0, none⟩) (Kd.Q_types HO_7.out BK185.out (by decide)) (fun _ hk => hk.2) (.int .i64 ((rd_T40 l0_0 ((rd_T82 t179 x36_2).f0)).f0))) (fun _ hk => hk.2) (.int .i64 ((rd_T40 l0_0 ((rd_T82 t179 x36_2).f0)).f1))) (fun _ hk => hk.2) (.int .i64 ((rd_T40 l0_0 ((rd_T82 t179 x36_2).f0)).f2))) (fun _ hk => hk.2) (.int .i64 ((rd_T40 l0_0 ((rd_T82 t179 x36_2).f0)).f3))) (fun _ h_ => h_.1))) hb); have n2_ := ZM (Kd.R_below (by (with_reducible repeat (first | apply ZY | apply ZX | apply ZZ)); exact (Kd.R_mono (Kd.R_far (p := ⟨gb185, 3, none⟩) (Kd.R_far (p := ⟨gb185, 2, none⟩) (Kd.R_far (p := ⟨gb185, 1, none⟩) (Kd.R_far (p := ⟨gb185, 0, none⟩) (Kd.R_types HO_34.out BK185.out (by decide)) (fun _ hk => hk.2) (.int .i64 ((rd_T40 l0_0 ((rd_T82 t179 x36_2).f0)).f0))) (fun _ hk => hk.2) (.int .i64 ((rd_T40 l0_0 ((rd_T82 t179 x36_2).f0)).f1))) (fun _ hk => hk.2) (.int .i64 ((rd_T40 l0_0 ((rd_T82 t179 x36_2).f0)).f2))) (fun _ hk => hk.2) (.int .i64 ((rd_T40 l0_0 ((rd_T82 t179 x36_2).f0)).f3))) (fun _ h_ => h_.1))) hb); have n3_ := ZM (blk_below (g := gb165) (o := .cells #[.slice (some ad166) l0_0.length c0_0, .slice A0_1 l0_1.length c0_1] 27 (0, 0)) (ZBF BK165.out NB165_185.out) hb); have n4_ := ZM (blk_below (g := gb183) (o := .cells #[.int .i64 ((rd_T82 t179 x36_2).f0), .int .i64 ((rd_T82 t179 x36_2).f1)] 82 (0, 0)) (ZBF BK183.out NB183_185.out) hb); have n5_ := ZM (blk_below (g := gb185) (o := .cells #[.int .i64 ((rd_T40 l0_0 ((rd_T82 t179 x36_2).f0)).f0), .int .i64 ((rd_T40 l0_0 ((rd_T82 t179 x36_2).f0)).f1), .int .i64 ((rd_T40 l0_0 ((rd_T82 t179 x36_2).f0)).f2), .int .i64 ((rd_T40 l0_0 ((rd_T82 t179 x36_2).f0)).f3)] 40 (0, 0)) (by (with_reducible repeat (first | refine ZR ?_ _ | refine ZS ?_ | refine ZT ?_ _)); refine blk_put (cs := #[.int .i64 ((rd_T40 l0_0 ((rd_T82 t179 x36_2).f0)).f0), .int .i64 ((rd_T40 l0_0 ((rd_T82 t179 x36_2).f0)).f1), .int .i64 ((rd_T40 l0_0 ((rd_T82 t179 x36_2).f0)).f2), .int .i64 0]) ?_ 3 _ rfl; (with_reducible repeat (first | refine ZR ?_ _ | refine ZS ?_ | refine ZT ?_ _)); refine blk_put (cs := #[.int .i64 ((rd_T40 l0_0 ((rd_T82 t179 x36_2).f0)).f0), .int .i64 ((rd_T40 l0_0 ((rd_T82 t179 x36_2).f0)).f1), .int .i64 0, .int .i64 0]) ?_ 2 _ rfl; (with_reducible repeat (first | refine ZR ?_ _ | refine ZS ?_ | refine ZT ?_ _)); refine blk_put (cs := #[.int .i64 ((rd_T40 l0_0 ((rd_T82 t179 x36_2).f0)).f0), .int .i64 0, .int .i64 0, .int .i64 0]) ?_ 1 _ rfl; (with_reducible repeat (first | refine ZR ?_ _ | refine ZS ?_ | refine ZT ?_ _)); refine blk_put (cs := #[.int .i64 0, .int .i64 0, .int .i64 0, .int .i64 0]) ?_ 0 _ rfl; (with_reducible repeat (first | refine ZR ?_ _ | refine ZS ?_ | refine ZT ?_ _)); exact BK185.out) hb); have n6_ := ZM (ZW (ZBB HB.out) hb); clear HO_6; clear HO_7; clear HO_34; clear BK165; clear BK183; clear BK185; clear HB; have HO_6 := n0_; have HO_7 := n1_; have HO_34 := n2_; have BK165 := n3_; have BK183 := n4_; have BK185 := n5_; have HB := n6_; clear n0_ n1_ n2_ n3_ n4_ n5_ n6_; (try clear hb); (try clear hb2); (try clear hk); (try clear hi)))
          go_meet
          case rel => exact ⟨_, (decide (t187 < t167)), ZE, H', ⟨by have := HK1.out; have := HK2.out; first | omega | exact Nat.le_refl _⟩, ⟨ZRK HO_6.out⟩, ⟨by (with_reducible repeat (first | apply Kd.Q_alloc | apply Kd.Q_drewN | apply Kd.Q_drew)); exact HO_7.out⟩, ⟨by (with_reducible repeat (first | apply ZY | apply ZX | apply ZZ)); exact Kd.R_mono HO_34.out (fun _ hk => hk.2)⟩, ⟨ZBK BK165.out⟩, ⟨ZBK BK183.out⟩, ⟨ZBK BK185.out⟩, ⟨ZBB HB.out⟩⟩
         ·rw [if_neg c45] at H
          have c45b0 : decide (t187 < t167) = false := decide_eq_false c45
          clear c45
          by_cases c50 : ((rd_T40 l0_0 ((rd_T82 t179 x36_2).f0)).f0) = 10
          ·rw [if_pos c50] at H
           have c50b0 : (((rd_T40 l0_0 ((rd_T82 t179 x36_2).f0)).f0) == 10) = true := beq_iff_eq.mpr c50
           have c50b1 : (((rd_T40 l0_0 ((rd_T82 t179 x36_2).f0)).f0) != 10) = false := bne_eq_false_iff_eq.mpr c50
           clear c50
           have H' := ZM H
           clear H
           have hnb51 := NB185_165.out
           have hnc51 := NB165_185.out
           have hnb52 := NB185_183.out
           have hnc52 := NB183_185.out
           obtain ⟨hcz53_0, hcz53_1, hcz53_2, hcz53_3, hfz53_0, hfz53_1, hfz53_2, hfz53_3⟩ := ZC4 BK185.out
           go_wp2_with (first | ((with_reducible refine gate_callee (f := 84) rfl ?_); refine goesL_ (some 53) rfl rfl Tryd.func84 (by kernel_rfl) rfl #[.agg #[.int .i64 ((rd_T40 l0_0 ((rd_T82 t179 x36_2).f0)).f0), .int .i64 ((rd_T40 l0_0 ((rd_T82 t179 x36_2).f0)).f1), .int .i64 ((rd_T40 l0_0 ((rd_T82 t179 x36_2).f0)).f2), .int .i64 ((rd_T40 l0_0 ((rd_T82 t179 x36_2).f0)).f3)]] rfl ZH ?_; (with_reducible refine (valid_low.calls ((rd_T40 l0_0 ((rd_T82 t179 x36_2).f0)).f0) ((rd_T40 l0_0 ((rd_T82 t179 x36_2).f0)).f1) ((rd_T40 l0_0 ((rd_T82 t179 x36_2).f0)).f2) ((rd_T40 l0_0 ((rd_T82 t179 x36_2).f0)).f3) t187 _ A44.out).mono ?_); rintro e w54 ⟨rfl, hb⟩; refine ⟨_, rfl, ?_⟩; have n0_ := ZM (Kd.R_below (by (with_reducible repeat (first | apply ZY | apply ZX | apply ZZ)); exact (Kd.R_mono (Kd.R_far (p := ⟨gb185, 3, none⟩) (Kd.R_far (p := ⟨gb185, 2, none⟩) (Kd.R_far (p := ⟨gb185, 1, none⟩) (Kd.R_far (p := ⟨gb185, 0, none⟩) (Kd.R_types HO_6.out BK185.out (by decide)) (fun _ hk => hk.2) (.int .i64 ((rd_T40 l0_0 ((rd_T82 t179 x36_2).f0)).f0))) (fun _ hk => hk.2) (.int .i64 ((rd_T40 l0_0 ((rd_T82 t179 x36_2).f0)).f1))) (fun _ hk => hk.2) (.int .i64 ((rd_T40 l0_0 ((rd_T82 t179 x36_2).f0)).f2))) (fun _ hk => hk.2) (.int .i64 ((rd_T40 l0_0 ((rd_T82 t179 x36_2).f0)).f3))) (fun _ h_ => h_.1))) hb); have n1_ := ZM (Kd.Q_below (by (with_reducible repeat (first | apply Kd.Q_alloc | apply Kd.Q_drewN | apply Kd.Q_drew)); exact (Kd.Q_mono (Kd.Q_far (p := ⟨gb185, 3, none⟩) (Kd.Q_far (p := ⟨gb185, 2, none⟩) (Kd.Q_far (p := ⟨gb185, 1, none⟩) (Kd.Q_far (p := ⟨gb185, 0, none⟩) (Kd.Q_types HO_7.out BK185.out (by decide)) (fun _ hk => hk.2) (.int .i64 ((rd_T40 l0_0 ((rd_T82 t179 x36_2).f0)).f0))) (fun _ hk => hk.2) (.int .i64 ((rd_T40 l0_0 ((rd_T82 t179 x36_2).f0)).f1))) (fun _ hk => hk.2) (.int .i64 ((rd_T40 l0_0 ((rd_T82 t179 x36_2).f0)).f2))) (fun _ hk => hk.2) (.int .i64 ((rd_T40 l0_0 ((rd_T82 t179 x36_2).f0)).f3))) (fun _ h_ => h_.1))) hb); have n2_ := ZM (Kd.R_below (by (with_reducible repeat (first | apply ZY | apply ZX | apply ZZ)); exact (Kd.R_mono (Kd.R_far (p := ⟨gb185, 3, none⟩) (Kd.R_far (p := ⟨gb185, 2, none⟩) (Kd.R_far (p := ⟨gb185, 1, none⟩) (Kd.R_far (p := ⟨gb185, 0, none⟩) (Kd.R_types HO_34.out BK185.out (by decide)) (fun _ hk => hk.2) (.int .i64 ((rd_T40 l0_0 ((rd_T82 t179 x36_2).f0)).f0))) (fun _ hk => hk.2) (.int .i64 ((rd_T40 l0_0 ((rd_T82 t179 x36_2).f0)).f1))) (fun _ hk => hk.2) (.int .i64 ((rd_T40 l0_0 ((rd_T82 t179 x36_2).f0)).f2))) (fun _ hk => hk.2) (.int .i64 ((rd_T40 l0_0 ((rd_T82 t179 x36_2).f0)).f3))) (fun _ h_ => h_.1))) hb); have n3_ := ZM (blk_below (g := gb165) (o := .cells #[.slice (some ad166) l0_0.length c0_0, .slice A0_1 l0_1.length c0_1] 27 (0, 0)) (ZBF BK165.out NB165_185.out) hb); have n4_ := ZM (blk_below (g := gb183) (o := .cells #[.int .i64 ((rd_T82 t179 x36_2).f0), .int .i64 ((rd_T82 t179 x36_2).f1)] 82 (0, 0)) (ZBF BK183.out NB183_185.out) hb); have n5_ := ZM (blk_below (g := gb185) (o := .cells #[.int .i64 ((rd_T40 l0_0 ((rd_T82 t179 x36_2).f0)).f0), .int .i64 ((rd_T40 l0_0 ((rd_T82 t179 x36_2).f0)).f1), .int .i64 ((rd_T40 l0_0 ((rd_T82 t179 x36_2).f0)).f2), .int .i64 ((rd_T40 l0_0 ((rd_T82 t179 x36_2).f0)).f3)] 40 (0, 0)) (by (with_reducible repeat (first | refine ZR ?_ _ | refine ZS ?_ | refine ZT ?_ _)); refine blk_put (cs := #[.int .i64 ((rd_T40 l0_0 ((rd_T82 t179 x36_2).f0)).f0), .int .i64 ((rd_T40 l0_0 ((rd_T82 t179 x36_2).f0)).f1), .int .i64 ((rd_T40 l0_0 ((rd_T82 t179 x36_2).f0)).f2), .int .i64 0]) ?_ 3 _ rfl; (with_reducible repeat (first | refine ZR ?_ _ | refine ZS ?_ | refine ZT ?_ _)); refine blk_put (cs := #[.int .i64 ((rd_T40 l0_0 ((rd_T82 t179 x36_2).f0)).f0), .int .i64 ((rd_T40 l0_0 ((rd_T82 t179 x36_2).f0)).f1), .int .i64 0, .int .i64 0]) ?_ 2 _ rfl; (with_reducible repeat (first | refine ZR ?_ _ | refine ZS ?_ | refine ZT ?_ _)); refine blk_put (cs := #[.int .i64 ((rd_T40 l0_0 ((rd_T82 t179 x36_2).f0)).f0), .int .i64 0, .int .i64 0, .int .i64 0]) ?_ 1 _ rfl; (with_reducible repeat (first | refine ZR ?_ _ | refine ZS ?_ | refine ZT ?_ _)); refine blk_put (cs := #[.int .i64 0, .int .i64 0, .int .i64 0, .int .i64 0]) ?_ 0 _ rfl; (with_reducible repeat (first | refine ZR ?_ _ | refine ZS ?_ | refine ZT ?_ _)); exact BK185.out) hb); have n6_ := ZM (ZW (ZBB HB.out) hb); clear HO_6; clear HO_7; clear HO_34; clear BK165; clear BK183; clear BK185; clear HB; have HO_6 := n0_; have HO_7 := n1_; have HO_34 := n2_; have BK165 := n3_; have BK183 := n4_; have BK185 := n5_; have HB := n6_; clear n0_ n1_ n2_ n3_ n4_ n5_ n6_; (try clear hb); (try clear hb2); (try clear hk); (try clear hi); obtain ⟨hcz55_0, hcz55_1, hcz55_2, hcz55_3, hfz55_0, hfz55_1, hfz55_2, hfz55_3⟩ := ZC4 BK185.out))
           go_meet
           case rel => exact ⟨_, ((((rd_T40 l0_0 ((rd_T82 t179 x36_2).f0)).f3) == t167)), ZE, H', ⟨by have := HK1.out; have := HK2.out; first | omega | exact Nat.le_refl _⟩, ⟨ZRK HO_6.out⟩, ⟨by (with_reducible repeat (first | apply Kd.Q_alloc | apply Kd.Q_drewN | apply Kd.Q_drew)); exact HO_7.out⟩, ⟨by (with_reducible repeat (first | apply ZY | apply ZX | apply ZZ)); exact Kd.R_mono HO_34.out (fun _ hk => hk.2)⟩, ⟨ZBK BK165.out⟩, ⟨ZBK BK183.out⟩, ⟨ZBK BK185.out⟩, ⟨ZBB HB.out⟩⟩
          ·rw [if_neg c50] at H
           have c50b0 : (((rd_T40 l0_0 ((rd_T82 t179 x36_2).f0)).f0) == 10) = false := beq_eq_false_iff_ne.mpr c50
           have c50b1 : (((rd_T40 l0_0 ((rd_T82 t179 x36_2).f0)).f0) != 10) = true := bne_iff_ne.mpr c50
           have H' := ZM H
           clear H
           have hnb56 := NB185_165.out
           have hnc56 := NB165_185.out
           have hnb57 := NB185_183.out
           have hnc57 := NB183_185.out
           obtain ⟨hcz58_0, hcz58_1, hcz58_2, hcz58_3, hfz58_0, hfz58_1, hfz58_2, hfz58_3⟩ := ZC4 BK185.out
           go_wp2_with (first | ((with_reducible refine gate_callee (f := 84) rfl ?_); refine goesL_ (some 53) rfl rfl Tryd.func84 (by kernel_rfl) rfl #[.agg #[.int .i64 ((rd_T40 l0_0 ((rd_T82 t179 x36_2).f0)).f0), .int .i64 ((rd_T40 l0_0 ((rd_T82 t179 x36_2).f0)).f1), .int .i64 ((rd_T40 l0_0 ((rd_T82 t179 x36_2).f0)).f2), .int .i64 ((rd_T40 l0_0 ((rd_T82 t179 x36_2).f0)).f3)]] rfl ZH ?_; (with_reducible refine (valid_low.calls ((rd_T40 l0_0 ((rd_T82 t179 x36_2).f0)).f0) ((rd_T40 l0_0 ((rd_T82 t179 x36_2).f0)).f1) ((rd_T40 l0_0 ((rd_T82 t179 x36_2).f0)).f2) ((rd_T40 l0_0 ((rd_T82 t179 x36_2).f0)).f3) t187 _ A44.out).mono ?_); rintro e w59 ⟨rfl, hb⟩; refine ⟨_, rfl, ?_⟩; have n0_ := ZM (Kd.R_below (by (with_reducible repeat (first | apply ZY | apply ZX | apply ZZ)); exact (Kd.R_mono (Kd.R_far (p := ⟨gb185, 3, none⟩) (Kd.R_far (p := ⟨gb185, 2, none⟩) (Kd.R_far (p := ⟨gb185, 1, none⟩) (Kd.R_far (p := ⟨gb185, 0, none⟩) (Kd.R_types HO_6.out BK185.out (by decide)) (fun _ hk => hk.2) (.int .i64 ((rd_T40 l0_0 ((rd_T82 t179 x36_2).f0)).f0))) (fun _ hk => hk.2) (.int .i64 ((rd_T40 l0_0 ((rd_T82 t179 x36_2).f0)).f1))) (fun _ hk => hk.2) (.int .i64 ((rd_T40 l0_0 ((rd_T82 t179 x36_2).f0)).f2))) (fun _ hk => hk.2) (.int .i64 ((rd_T40 l0_0 ((rd_T82 t179 x36_2).f0)).f3))) (fun _ h_ => h_.1))) hb); have n1_ := ZM (Kd.Q_below (by (with_reducible repeat (first | apply Kd.Q_alloc | apply Kd.Q_drewN | apply Kd.Q_drew)); exact (Kd.Q_mono (Kd.Q_far (p := ⟨gb185, 3, none⟩) (Kd.Q_far (p := ⟨gb185, 2, none⟩) (Kd.Q_far (p := ⟨gb185, 1, none⟩) (Kd.Q_far (p := ⟨gb185, 0, none⟩) (Kd.Q_types HO_7.out BK185.out (by decide)) (fun _ hk => hk.2) (.int .i64 ((rd_T40 l0_0 ((rd_T82 t179 x36_2).f0)).f0))) (fun _ hk => hk.2) (.int .i64 ((rd_T40 l0_0 ((rd_T82 t179 x36_2).f0)).f1))) (fun _ hk => hk.2) (.int .i64 ((rd_T40 l0_0 ((rd_T82 t179 x36_2).f0)).f2))) (fun _ hk => hk.2) (.int .i64 ((rd_T40 l0_0 ((rd_T82 t179 x36_2).f0)).f3))) (fun _ h_ => h_.1))) hb); have n2_ := ZM (Kd.R_below (by (with_reducible repeat (first | apply ZY | apply ZX | apply ZZ)); exact (Kd.R_mono (Kd.R_far (p := ⟨gb185, 3, none⟩) (Kd.R_far (p := ⟨gb185, 2, none⟩) (Kd.R_far (p := ⟨gb185, 1, none⟩) (Kd.R_far (p := ⟨gb185, 0, none⟩) (Kd.R_types HO_34.out BK185.out (by decide)) (fun _ hk => hk.2) (.int .i64 ((rd_T40 l0_0 ((rd_T82 t179 x36_2).f0)).f0))) (fun _ hk => hk.2) (.int .i64 ((rd_T40 l0_0 ((rd_T82 t179 x36_2).f0)).f1))) (fun _ hk => hk.2) (.int .i64 ((rd_T40 l0_0 ((rd_T82 t179 x36_2).f0)).f2))) (fun _ hk => hk.2) (.int .i64 ((rd_T40 l0_0 ((rd_T82 t179 x36_2).f0)).f3))) (fun _ h_ => h_.1))) hb); have n3_ := ZM (blk_below (g := gb165) (o := .cells #[.slice (some ad166) l0_0.length c0_0, .slice A0_1 l0_1.length c0_1] 27 (0, 0)) (ZBF BK165.out NB165_185.out) hb); have n4_ := ZM (blk_below (g := gb183) (o := .cells #[.int .i64 ((rd_T82 t179 x36_2).f0), .int .i64 ((rd_T82 t179 x36_2).f1)] 82 (0, 0)) (ZBF BK183.out NB183_185.out) hb); have n5_ := ZM (blk_below (g := gb185) (o := .cells #[.int .i64 ((rd_T40 l0_0 ((rd_T82 t179 x36_2).f0)).f0), .int .i64 ((rd_T40 l0_0 ((rd_T82 t179 x36_2).f0)).f1), .int .i64 ((rd_T40 l0_0 ((rd_T82 t179 x36_2).f0)).f2), .int .i64 ((rd_T40 l0_0 ((rd_T82 t179 x36_2).f0)).f3)] 40 (0, 0)) (by (with_reducible repeat (first | refine ZR ?_ _ | refine ZS ?_ | refine ZT ?_ _)); refine blk_put (cs := #[.int .i64 ((rd_T40 l0_0 ((rd_T82 t179 x36_2).f0)).f0), .int .i64 ((rd_T40 l0_0 ((rd_T82 t179 x36_2).f0)).f1), .int .i64 ((rd_T40 l0_0 ((rd_T82 t179 x36_2).f0)).f2), .int .i64 0]) ?_ 3 _ rfl; (with_reducible repeat (first | refine ZR ?_ _ | refine ZS ?_ | refine ZT ?_ _)); refine blk_put (cs := #[.int .i64 ((rd_T40 l0_0 ((rd_T82 t179 x36_2).f0)).f0), .int .i64 ((rd_T40 l0_0 ((rd_T82 t179 x36_2).f0)).f1), .int .i64 0, .int .i64 0]) ?_ 2 _ rfl; (with_reducible repeat (first | refine ZR ?_ _ | refine ZS ?_ | refine ZT ?_ _)); refine blk_put (cs := #[.int .i64 ((rd_T40 l0_0 ((rd_T82 t179 x36_2).f0)).f0), .int .i64 0, .int .i64 0, .int .i64 0]) ?_ 1 _ rfl; (with_reducible repeat (first | refine ZR ?_ _ | refine ZS ?_ | refine ZT ?_ _)); refine blk_put (cs := #[.int .i64 0, .int .i64 0, .int .i64 0, .int .i64 0]) ?_ 0 _ rfl; (with_reducible repeat (first | refine ZR ?_ _ | refine ZS ?_ | refine ZT ?_ _)); exact BK185.out) hb); have n6_ := ZM (ZW (ZBB HB.out) hb); clear HO_6; clear HO_7; clear HO_34; clear BK165; clear BK183; clear BK185; clear HB; have HO_6 := n0_; have HO_7 := n1_; have HO_34 := n2_; have BK165 := n3_; have BK183 := n4_; have BK185 := n5_; have HB := n6_; clear n0_ n1_ n2_ n3_ n4_ n5_ n6_; (try clear hb); (try clear hb2); (try clear hk); (try clear hi); obtain ⟨hcz60_0, hcz60_1, hcz60_2, hcz60_3, hfz60_0, hfz60_1, hfz60_2, hfz60_3⟩ := ZC4 BK185.out))
           go_meet
           case rel => exact ⟨_, (false), ZE, H', ⟨by have := HK1.out; have := HK2.out; first | omega | exact Nat.le_refl _⟩, ⟨ZRK HO_6.out⟩, ⟨by (with_reducible repeat (first | apply Kd.Q_alloc | apply Kd.Q_drewN | apply Kd.Q_drew)); exact HO_7.out⟩, ⟨by (with_reducible repeat (first | apply ZY | apply ZX | apply ZZ)); exact Kd.R_mono HO_34.out (fun _ hk => hk.2)⟩, ⟨ZBK BK165.out⟩, ⟨ZBK BK183.out⟩, ⟨ZBK BK185.out⟩, ⟨ZBB HB.out⟩⟩
       case rest =>
        clear HC31
        try clear c1
        try clear c3
        try clear c3b0
        try clear c4
        try clear c4b0
        try clear c6
        try clear c6b0
        try clear c6b1
        try clear c7
        try clear c7b0
        try clear c7b1
        try clear c16
        try clear c16b0
        try clear c16b1
        try clear c17
        try clear c17b0
        try clear c17b1
        try clear c18
        try clear c18b0
        try clear c18b1
        try clear c21
        try clear q21
        try clear c25
        try clear c25b0
        try clear c26
        try clear c26b0
        try clear c27
        try clear c27b0
        try clear c28
        try clear c28b0
        try clear c29
        try clear c29b0
        try clear c30
        try clear c30b0
        try clear c43
        try clear c45
        try clear c45b0
        try clear c50
        try clear c50b0
        try clear c50b1
        try clear hcz11_0
        try clear hcz11_1
        try clear hcz22_0
        try clear hcz22_1
        try clear hcz34_0
        try clear hcz34_1
        try clear hcz35_0
        try clear hcz35_1
        try clear hcz39_0
        try clear hcz39_1
        try clear hcz39_2
        try clear hcz39_3
        try clear hcz40_0
        try clear hcz40_1
        try clear hcz48_0
        try clear hcz48_1
        try clear hcz48_2
        try clear hcz48_3
        try clear hcz53_0
        try clear hcz53_1
        try clear hcz53_2
        try clear hcz53_3
        try clear hcz55_0
        try clear hcz55_1
        try clear hcz55_2
        try clear hcz55_3
        try clear hcz58_0
        try clear hcz58_1
        try clear hcz58_2
        try clear hcz58_3
        try clear hcz60_0
        try clear hcz60_1
        try clear hcz60_2
        try clear hcz60_3
        try clear hcz9_0
        try clear hcz9_1
        try clear hfz11_0
        try clear hfz11_1
        try clear hfz22_0
        try clear hfz22_1
        try clear hfz34_0
        try clear hfz34_1
        try clear hfz35_0
        try clear hfz35_1
        try clear hfz39_0
        try clear hfz39_1
        try clear hfz39_2
        try clear hfz39_3
        try clear hfz40_0
        try clear hfz40_1
        try clear hfz48_0
        try clear hfz48_1
        try clear hfz48_2
        try clear hfz48_3
        try clear hfz53_0
        try clear hfz53_1
        try clear hfz53_2
        try clear hfz53_3
        try clear hfz55_0
        try clear hfz55_1
        try clear hfz55_2
        try clear hfz55_3
        try clear hfz58_0
        try clear hfz58_1
        try clear hfz58_2
        try clear hfz58_3
        try clear hfz60_0
        try clear hfz60_1
        try clear hfz60_2
        try clear hfz60_3
        try clear hfz9_0
        try clear hfz9_1
        try clear hx166_0
        try clear hx166_1
        try clear hx166_2
        try clear hx166_3
        try clear hx175_0
        try clear hx182_0
        try clear hx182_1
        try clear hx184_0
        try clear hx184_1
        try clear hx184_2
        try clear hx184_3
        try clear hx186_0
        try clear p166
        try clear p175
        try clear p182
        try clear p184
        try clear p186
        try clear q166
        try clear q175
        try clear q182
        try clear q184
        try clear q186
        try clear q21
        obtain ⟨kq, x46_30, rfl, HA, HJ30, HO_6, HO_7, HO_34, BK165, BK183, BK185, HB⟩ := hcut
        cases kq with
        | zero => exact absurd HA.out (by simp [valid_round.j2])
        | succ kj30 =>
         have H := HA.out
         clear HA
         simp only [valid_round.j2] at H
         by_cases c61 : x46_30 = true
         ·subst c61
          have H1 : (valid_round.l1 kj30 a1 t167 x6_2 x7_2 t179 (t179.length : Int) (wrap64 (x36_2 + 1)) l0_0 l0_1) = some r := by rw [if_pos rfl] at H; exact H
          clear H
          have H := H1
          clear H1
          have H' := ZM H
          clear H
          go_wp2
          go_roundg kj30
          case measure => have := HK1.out; have := HK2.out; have := HJ30.out; omega
          case rel => exact ⟨(x6_2), (x7_2), (wrap64 (x36_2 + 1)), ZE, H', ⟨by have := HK1.out; have := HK2.out; have := HJ30.out; omega⟩, ⟨ZRK HO_6.out⟩, ⟨by (with_reducible repeat (first | apply Kd.Q_alloc | apply Kd.Q_drewN | apply Kd.Q_drew)); exact HO_7.out⟩, ⟨by (with_reducible repeat (first | apply ZY | apply ZX | apply ZZ)); exact Kd.R_mono HO_34.out (fun _ hk => trivial)⟩, ⟨ZBK BK165.out⟩, ⟨ZBB HB.out⟩⟩
         ·replace c61 := Bool.eq_false_iff.mpr c61
          subst c61
          have H1 : (if ((rd_T82 t179 x36_2).f0) = a1 then (if 0 ≤ a1 then (if a1 < (x6_2.length : Int) then (some (rdOf false (x6_2.set (a1 : Int).toNat true) a1)) else (none)) else (none)) else (if 0 ≤ ((rd_T82 t179 x36_2).f0) then (if ((rd_T82 t179 x36_2).f0) < (x6_2.length : Int) then (if x7_2.length < 17592186044416 then (valid_round.l1 kj30 a1 t167 (x6_2.set (((rd_T82 t179 x36_2).f0) : Int).toNat true) (x7_2 ++ [((rd_T82 t179 x36_2).f0)]) t179 (t179.length : Int) (wrap64 (x36_2 + 1)) l0_0 l0_1) else (none)) else (none)) else (none))) = some r := by rw [if_neg (show ¬ (false = true) by decide)] at H; exact H
          clear H
          have H := H1
          clear H1
          by_cases c62 : ((rd_T82 t179 x36_2).f0) = a1
          ·rw [if_pos c62] at H
           have c62b0 : (((rd_T82 t179 x36_2).f0) == a1) = true := beq_iff_eq.mpr c62
           have c62b1 : (((rd_T82 t179 x36_2).f0) != a1) = false := bne_eq_false_iff_eq.mpr c62
           clear c62
           by_cases c63 : 0 ≤ a1
           case neg =>
            rw [if_neg c63] at H
            exact absurd H (by simp)
           rw [if_pos c63] at H
           have c63b0 : decide (0 ≤ a1) = true := decide_eq_true c63
           clear c63
           by_cases c64 : a1 < (x6_2.length : Int)
           case neg =>
            rw [if_neg c64] at H
            exact absurd H (by simp)
           rw [if_pos c64] at H
           have c64b0 : decide (a1 < (x6_2.length : Int)) = true := decide_eq_true c64
           clear c64
           obtain ⟨y188, hy188⟩ : ∃ y_ : List Bool, y_ = (x6_2.set (a1 : Int).toNat true) := ⟨_, rfl⟩
           replace H : (some (rdOf false y188 a1)) = some r := by first | (rw [hy188]; with_reducible exact H) | (have H2_ := (Option.bind_some _ _).symm.trans H; rw [hy188]; with_reducible exact H2_) | (have H2_ := (Option.bind_some _ _).symm.trans H; with_reducible exact H2_) | with_reducible exact H | (rw [hy188]; exact H) | exact H
           have Ny188 := ZM hy188
           clear hy188
           obtain rfl := Option.some.inj H
           have hnb66 := NB183_165.out
           have hnc66 := NB165_183.out
           have hnb67 := NB183_185.out
           have hnc67 := NB185_183.out
           obtain ⟨hcz68_0, hcz68_1, hfz68_0, hfz68_1⟩ := ZC2 BK183.out
           have p65 : 0 ≤ (a1 : Int) := ZOD
           have q65 : (a1 : Int) < ((x6_2.length : Int) : Int) := ZOD
           obtain ⟨go65, co65, eo65, gb65, gl65, cl65, HG65⟩ := Kd.R_form HO_6.out (by omega)
           (first | cases eo65 | (injection eo65 with ea_ en_ ec_; (first | subst ea_ | (injection ea_ with ea_; subst ea_)); subst ec_; clear en_))
           have GB65 := ZM gb65
           have GG65 := ZM HG65
           clear gb65 gl65 HG65
           (first | simp only [add_plain] at hx186_0 | skip)
           obtain ⟨hx65_0, hf65_0⟩ := Kd.R_celln false HO_6.out (a1 : Int) p65 q65
           replace p65 := eq_true p65
           replace q65 := eq_true q65
           have HP69 := Kd.R_putg HO_6.out (a1 : Int) true
           go_wp2_with (first | ((with_reducible refine gate_store (t := 4) (p := 72) rfl ?_); refine store_event (t := 4) (p := 72) (v := ?vo_w70) (w1 := (wc.setCell ⟨go65, (a1 : Int).toNat, none⟩ (.bool true))) ?hg ?ho ?hn ?hr ?_; (case ho => rfl); (case hg => rfl); (case hn => rfl); (case hr => first | (go_simp; done) | (go_simp; rfl)); intro w70 hw; have hg : wc.grownBy w70 (some go65) := (by rw [hw]; exact HP69.2); have hp_ : Kd.R Kd.bool 4 w70 w.heap.size (fun _ => True) (.slice (some ⟨go65, 0, none⟩) x6_2.length co41) y188 := (by rw [hw, Ny188.out]; exact HP69.1); clear HP69; have n0_ := ZM (hp_); have n1_ := ZM (Kd.Q_over' (v := (.slice (some ⟨go65, 0, none⟩) x6_2.length co41)) (by (with_reducible repeat (first | apply Kd.Q_alloc | apply Kd.Q_drewN | apply Kd.Q_drew)); exact HO_7.out) (Kd.R_typed HO_6.out) (by decide) hg); have n2_ := ZM (Kd.R_over' (v := (.slice (some ⟨go65, 0, none⟩) x6_2.length co41)) (ZRK HO_34.out) (Kd.R_typed HO_6.out) (by decide) hg); have n3_ := ZM (blk_grown (g := gb165) (o := .cells #[.slice (some ad166) l0_0.length c0_0, .slice A0_1 l0_1.length c0_1] 27 (0, 0)) (ZBK BK165.out) hg (Kd.R_ne HO_6.out BK165.out (by decide))); have n4_ := ZM (blk_grown (g := gb183) (o := .cells #[.int .i64 ((rd_T82 t179 x36_2).f0), .int .i64 ((rd_T82 t179 x36_2).f1)] 82 (0, 0)) (ZBK BK183.out) hg (Kd.R_ne HO_6.out BK183.out (by decide))); have n5_ := ZM (blk_grown (g := gb185) (o := .cells #[.int .i64 ((rd_T40 l0_0 ((rd_T82 t179 x36_2).f0)).f0), .int .i64 ((rd_T40 l0_0 ((rd_T82 t179 x36_2).f0)).f1), .int .i64 ((rd_T40 l0_0 ((rd_T82 t179 x36_2).f0)).f2), .int .i64 ((rd_T40 l0_0 ((rd_T82 t179 x36_2).f0)).f3)] 40 (0, 0)) (ZBK BK185.out) hg (Kd.R_ne HO_6.out BK185.out (by decide))); have n6_ := ZM ((by rw [hw]; exact ZQ (HB.out) GB65.out : Below w.heap.size w w70)); clear HO_6; clear HO_7; clear HO_34; clear BK165; clear BK183; clear BK185; clear HB; have HO_6 := n0_; have HO_7 := n1_; have HO_34 := n2_; have BK165 := n3_; have BK183 := n4_; have BK185 := n5_; have HB := n6_; clear n0_ n1_ n2_ n3_ n4_ n5_ n6_; clear hg hw hp_; have p189 : 0 ≤ (a1 : Int) := ZOD; have q189 : a1 < (y188.length : Int) := (by have h_ : (a1 : Int) < ((x6_2.length : Int) : Int) := ZOD; first | (have e_ := (Kd.R_reads' HO_6.out).1; omega) | simpa only [Ny188.out, List.length_set] using h_); have ql189 : ((a1 : Int) < ((x6_2.length : Int) : Int)) = True := eq_true (ZOD); obtain ⟨ad189, e189, hx189_0⟩ := Kd.at_bool (Kd.R_reads' HO_6.out).2.2 a1 p189 q189; obtain rfl : (⟨go65, 0, none⟩ : Addr) = ad189 := (by injection e189); (first | simp only [add_plain] at hx189_0 | simp only [add_at] at hx189_0 | simp only [Addr.add, Nat.zero_add] at hx189_0 | skip); replace p189 := eq_true p189; replace q189 := eq_true q189))
           (try rw [Exit.noGoto_ret])
           go_ret
           exact ⟨ZEE, ZBB HB.out⟩
          ·rw [if_neg c62] at H
           have c62b0 : (((rd_T82 t179 x36_2).f0) == a1) = false := beq_eq_false_iff_ne.mpr c62
           have c62b1 : (((rd_T82 t179 x36_2).f0) != a1) = true := bne_iff_ne.mpr c62
           by_cases c71 : 0 ≤ ((rd_T82 t179 x36_2).f0)
           case neg =>
            rw [if_neg c71] at H
            exact absurd H (by simp)
           rw [if_pos c71] at H
           have c71b0 : decide (0 ≤ ((rd_T82 t179 x36_2).f0)) = true := decide_eq_true c71
           clear c71
           by_cases c72 : ((rd_T82 t179 x36_2).f0) < (x6_2.length : Int)
           case neg =>
            rw [if_neg c72] at H
            exact absurd H (by simp)
           rw [if_pos c72] at H
           have c72b0 : decide (((rd_T82 t179 x36_2).f0) < (x6_2.length : Int)) = true := decide_eq_true c72
           clear c72
           obtain ⟨y190, hy190⟩ : ∃ y_ : List Bool, y_ = (x6_2.set (((rd_T82 t179 x36_2).f0) : Int).toNat true) := ⟨_, rfl⟩
           replace H : (if x7_2.length < 17592186044416 then (valid_round.l1 kj30 a1 t167 y190 (x7_2 ++ [((rd_T82 t179 x36_2).f0)]) t179 (t179.length : Int) (wrap64 (x36_2 + 1)) l0_0 l0_1) else (none)) = some r := by first | (rw [hy190]; with_reducible exact H) | (have H2_ := (Option.bind_some _ _).symm.trans H; rw [hy190]; with_reducible exact H2_) | (have H2_ := (Option.bind_some _ _).symm.trans H; with_reducible exact H2_) | with_reducible exact H | (rw [hy190]; exact H) | exact H
           have Ny190 := ZM hy190
           clear hy190
           by_cases c74 : x7_2.length < 17592186044416
           case neg =>
            rw [if_neg c74] at H
            exact absurd H (by simp)
           rw [if_pos c74] at H
           have LMc74 := ZM c74
           clear c74
           obtain ⟨y191, hy191⟩ : ∃ y_ : List Int, y_ = (x7_2 ++ [((rd_T82 t179 x36_2).f0)]) := ⟨_, rfl⟩
           replace H : (valid_round.l1 kj30 a1 t167 y190 y191 t179 (t179.length : Int) (wrap64 (x36_2 + 1)) l0_0 l0_1) = some r := by first | (rw [hy191]; with_reducible exact H) | (have H2_ := (Option.bind_some _ _).symm.trans H; rw [hy191]; with_reducible exact H2_) | (have H2_ := (Option.bind_some _ _).symm.trans H; with_reducible exact H2_) | with_reducible exact H | (rw [hy191]; exact H) | exact H
           have Ny191 := ZM hy191
           clear hy191
           have H' := ZM H
           clear H
           have hnb75 := NB183_165.out
           have hnc75 := NB165_183.out
           have hnb76 := NB183_185.out
           have hnc76 := NB185_183.out
           obtain ⟨hcz77_0, hcz77_1, hfz77_0, hfz77_1⟩ := ZC2 BK183.out
           have p73 : 0 ≤ (((rd_T82 t179 x36_2).f0) : Int) := ZOD
           have q73 : (((rd_T82 t179 x36_2).f0) : Int) < ((x6_2.length : Int) : Int) := ZOD
           obtain ⟨go73, co73, eo73, gb73, gl73, cl73, HG73⟩ := Kd.R_form HO_6.out (by omega)
           (first | cases eo73 | (injection eo73 with ea_ en_ ec_; (first | subst ea_ | (injection ea_ with ea_; subst ea_)); subst ec_; clear en_))
           have GB73 := ZM gb73
           have GG73 := ZM HG73
           clear gb73 gl73 HG73
           obtain ⟨hx73_0, hf73_0⟩ := Kd.R_celln false HO_6.out (((rd_T82 t179 x36_2).f0) : Int) p73 q73
           replace p73 := eq_true p73
           replace q73 := eq_true q73
           have HP78 := Kd.R_putg HO_6.out (((rd_T82 t179 x36_2).f0) : Int) true
           go_wp2_with (first | ((with_reducible refine gate_store (t := 4) (p := 76) rfl ?_); refine store_event (t := 4) (p := 76) (v := ?vo_w79) (w1 := (wc.setCell ⟨go73, (((rd_T82 t179 x36_2).f0) : Int).toNat, none⟩ (.bool true))) ?hg ?ho ?hn ?hr ?_; (case ho => rfl); (case hg => rfl); (case hn => rfl); (case hr => first | (go_simp; done) | (go_simp; rfl)); intro w79 hw; have hg : wc.grownBy w79 (some go73) := (by rw [hw]; exact HP78.2); have hp_ : Kd.R Kd.bool 4 w79 w.heap.size (fun _ => True) (.slice (some ⟨go73, 0, none⟩) x6_2.length co41) y190 := (by rw [hw, Ny190.out]; exact HP78.1); clear HP78; have n0_ := ZM (hp_); have n1_ := ZM (Kd.Q_over' (v := (.slice (some ⟨go73, 0, none⟩) x6_2.length co41)) (by (with_reducible repeat (first | apply Kd.Q_alloc | apply Kd.Q_drewN | apply Kd.Q_drew)); exact HO_7.out) (Kd.R_typed HO_6.out) (by decide) hg); have n2_ := ZM (Kd.R_over' (v := (.slice (some ⟨go73, 0, none⟩) x6_2.length co41)) (ZRK HO_34.out) (Kd.R_typed HO_6.out) (by decide) hg); have n3_ := ZM (blk_grown (g := gb165) (o := .cells #[.slice (some ad166) l0_0.length c0_0, .slice A0_1 l0_1.length c0_1] 27 (0, 0)) (ZBK BK165.out) hg (Kd.R_ne HO_6.out BK165.out (by decide))); have n4_ := ZM (blk_grown (g := gb183) (o := .cells #[.int .i64 ((rd_T82 t179 x36_2).f0), .int .i64 ((rd_T82 t179 x36_2).f1)] 82 (0, 0)) (ZBK BK183.out) hg (Kd.R_ne HO_6.out BK183.out (by decide))); have n5_ := ZM (blk_grown (g := gb185) (o := .cells #[.int .i64 ((rd_T40 l0_0 ((rd_T82 t179 x36_2).f0)).f0), .int .i64 ((rd_T40 l0_0 ((rd_T82 t179 x36_2).f0)).f1), .int .i64 ((rd_T40 l0_0 ((rd_T82 t179 x36_2).f0)).f2), .int .i64 ((rd_T40 l0_0 ((rd_T82 t179 x36_2).f0)).f3)] 40 (0, 0)) (ZBK BK185.out) hg (Kd.R_ne HO_6.out BK185.out (by decide))); have n6_ := ZM ((by rw [hw]; exact ZQ (HB.out) GB73.out : Below w.heap.size w w79)); clear HO_6; clear HO_7; clear HO_34; clear BK165; clear BK183; clear BK185; clear HB; have HO_6 := n0_; have HO_7 := n1_; have HO_34 := n2_; have BK165 := n3_; have BK183 := n4_; have BK185 := n5_; have HB := n6_; clear n0_ n1_ n2_ n3_ n4_ n5_ n6_; clear hg hw hp_; obtain ⟨hcz80_0, hcz80_1, hfz80_0, hfz80_1⟩ := ZC2 BK183.out) | ((with_reducible refine gate_builtin (b := .append) (xs := #[.tmp 77, .tmp 80]) rfl ?_); at_builtin; refine Kd.Q_append (Kd.int .i64) (w0 := w) w.heap.size rfl (.tmp 77) (.tmp 80) 61 3 (.int .i64 0) 8 rfl Tryd.underlying61 info3 rfl (by decide) (by omega) u7 x7_2 ((rd_T82 t179 x36_2).f0) [.int .i64 ((rd_T82 t179 x36_2).f0)] (fun _ => True) (fun _ => False) rfl rfl ?aP (fun _ hk => hk.elim) ?aF ?aO ?aB ?aS ?aL ?_; (case aP => exact rfl); (case aB => exact (ZBB HB.out)); (case aF => exact (fun _ _ => trivial)); (case aO => exact (by (with_reducible repeat (first | apply Kd.Q_alloc | apply Kd.Q_drewN | apply Kd.Q_drew)); exact HO_7.out)); (case aS => exact (ZV (ZBB HB.out))); (case aL => have := LMc74.out; omega); intro v192 w81 ho hb hg hat; rw [← Ny191.out] at ho; have n0_ := ZM (Kd.R_over' (ZRK HO_6.out) (Kd.Q_typed (by (with_reducible repeat (first | apply Kd.Q_alloc | apply Kd.Q_drewN | apply Kd.Q_drew)); exact HO_7.out)) (by decide) hg); have n1_ := ZM (Kd.R_over' (ZRK HO_34.out) (Kd.Q_typed (by (with_reducible repeat (first | apply Kd.Q_alloc | apply Kd.Q_drewN | apply Kd.Q_drew)); exact HO_7.out)) (by decide) hg); have n2_ := ZM (blk_grown (g := gb165) (o := .cells #[.slice (some ad166) l0_0.length c0_0, .slice A0_1 l0_1.length c0_1] 27 (0, 0)) (ZBK BK165.out) hg (Kd.Q_ne HO_7.out BK165.out (by decide))); have n3_ := ZM (blk_grown (g := gb183) (o := .cells #[.int .i64 ((rd_T82 t179 x36_2).f0), .int .i64 ((rd_T82 t179 x36_2).f1)] 82 (0, 0)) (ZBK BK183.out) hg (Kd.Q_ne HO_7.out BK183.out (by decide))); have n4_ := ZM (blk_grown (g := gb185) (o := .cells #[.int .i64 ((rd_T40 l0_0 ((rd_T82 t179 x36_2).f0)).f0), .int .i64 ((rd_T40 l0_0 ((rd_T82 t179 x36_2).f0)).f1), .int .i64 ((rd_T40 l0_0 ((rd_T82 t179 x36_2).f0)).f2), .int .i64 ((rd_T40 l0_0 ((rd_T82 t179 x36_2).f0)).f3)] 40 (0, 0)) (ZBK BK185.out) hg (Kd.Q_ne HO_7.out BK185.out (by decide))); have n5_ := ZM (hb); have n6_ := ZM (ho); clear HO_6; clear HO_34; clear BK165; clear BK183; clear BK185; clear HB; clear HO_7; have HO_6 := n0_; have HO_34 := n1_; have BK165 := n2_; have BK183 := n3_; have BK185 := n4_; have HB := n5_; have HO193 := n6_; clear n0_ n1_ n2_ n3_ n4_ n5_ n6_; clear ho hb hg hat))
           go_roundg kj30
           case measure => have := HK1.out; have := HK2.out; have := HJ30.out; omega
           case rel => exact ⟨(y190), (y191), (wrap64 (x36_2 + 1)), ZE, H', ⟨by have := HK1.out; have := HK2.out; have := HJ30.out; omega⟩, ⟨ZRK HO_6.out⟩, ⟨by (with_reducible repeat (first | apply Kd.Q_alloc | apply Kd.Q_drewN | apply Kd.Q_drew)); exact HO193.out⟩, ⟨by (with_reducible repeat (first | apply ZY | apply ZX | apply ZZ)); exact Kd.R_mono HO_34.out (fun _ hk => trivial)⟩, ⟨ZBK BK165.out⟩, ⟨ZBB HB.out⟩⟩
      ·rw [if_neg c25] at H
       have c25b0 : decide (x36_2 < (t179.length : Int)) = false := decide_eq_false c25
       clear c25
       have H' := ZM H
       clear H
       go_wp2
       go_roundg k2
       case measure => have := HK1.out; have := HK2.out; omega
       case rel => exact ⟨(x6_2), (x7_2), H', ⟨by have := HK1.out; have := HK2.out; omega⟩, ⟨ZRK HO_6.out⟩, ⟨by (with_reducible repeat (first | apply Kd.Q_alloc | apply Kd.Q_drewN | apply Kd.Q_drew)); exact HO_7.out⟩, ⟨ZBK BK165.out⟩, ⟨ZBB HB.out⟩⟩
   ·rw [if_neg c16] at H
    have c16b0 : decide (0 < (x7_1.length : Int)) = false := decide_eq_false c16
    have c16b1 : decide (0 < x7_1.length) = false := decide_eq_false (by omega)
    clear c16
    by_cases c82 : 0 ≤ a1
    case neg =>
     rw [if_neg c82] at H
     exact absurd H (by simp)
    rw [if_pos c82] at H
    have c82b0 : decide (0 ≤ a1) = true := decide_eq_true c82
    clear c82
    by_cases c83 : a1 < (x6_1.length : Int)
    case neg =>
     rw [if_neg c83] at H
     exact absurd H (by simp)
    rw [if_pos c83] at H
    have c83b0 : decide (a1 < (x6_1.length : Int)) = true := decide_eq_true c83
    clear c83
    obtain rfl := Option.some.inj H
    obtain ⟨Ao84, co84, eo84, _⟩ := Kd.Q_slice HO_7.out
    subst eo84
    obtain ⟨Ao85, co85, eo85⟩ := Kd.R_slice HO_6.out
    subst eo85
    have p174 : 0 ≤ (a1 : Int) := ZOD
    have q174 : a1 < (x6_1.length : Int) := ZOD
    obtain ⟨ad174, e174, hx174_0⟩ := Kd.at_bool (Kd.R_reads' HO_6.out).2.2 a1 p174 q174
    cases e174
    replace p174 := eq_true p174
    replace q174 := eq_true q174
    go_wp2
    (try rw [Exit.noGoto_ret])
    go_ret
    exact ⟨ZEE, ZBB HB.out⟩
end Go.Proofs.YtbjjcolbomaodaaDoor.PTks
