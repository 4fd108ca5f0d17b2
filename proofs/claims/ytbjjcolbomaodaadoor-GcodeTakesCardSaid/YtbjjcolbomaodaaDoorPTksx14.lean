-- Laid by hprint.py of this repo: the kit's printer, and contracts by hand beside it. Not trusted: Lean checks it.
import Derived.Test.YtbjjcolbomaodaaDoorWZ
import Derived.Test.YtbjjcolbomaodaaDoorWY
import Derived.Test.YtbjjcolbomaodaaDoorPTksx0
import Derived.Test.YtbjjcolbomaodaaDoorPTksx5
import Derived.Test.YtbjjcolbomaodaaDoorPTksx13
namespace Go.Proofs.YtbjjcolbomaodaaDoor.PTks
open Go.RowKit Go.Proofs.YtbjjcolbomaodaaDoorW.PrintWords Go.Proofs.YtbjjcolbomaodaaDoorW.PrintLast Go.Proofs.YtbjjcolbomaodaaDoorW.PrintMore
attribute [local go_sem] max2_int min2_int max_two min_two max_three min_three max_four min_four   -- for this text's walks alone
set_option linter.unusedVariables false
set_option linter.unusedSimpArgs false

/-! ### gcode_Load: function 11 -/
def gcode_Load.f (k : Nat) (l0 : List Int) : Option ((List (S40)) × (List (S42)) × Int) := (gcode_Take.f l0).bind fun bt195 => (if bt195.2.2 = 0 then ((valid_Graph.f k bt195.1 bt195.2.1).bind fun t203 => (if t203 = 0 then (some (bt195.1, bt195.2.1, 0)) else (some (([] : List (S40)), ([] : List (S42)), t203)))) else (some (([] : List (S40)), ([] : List (S42)), bt195.2.2)))
theorem gcode_Load.mono : ∀ a0 k, LeO (gcode_Load.f k a0) (gcode_Load.f (k + 1) a0) := by
 intro a0 k
 unfold gcode_Load.f
 repeat' first
   | (with_reducible exact valid_Graph.mono _ _ _)
   | (with_reducible exact LeO.refl _)
   | (with_reducible exact LeO.none _)
   | (with_reducible refine LeO.ite ?_ ?_)
   | (with_reducible refine LeO.bind ?_ (fun _ => ?_))
   | exact valid_Graph.mono _ _ _
   | exact LeO.none _
   | refine LeO.ite ?_ ?_
   | refine LeO.bind ?_ (fun _ => ?_)
set_option maxHeartbeats 8000000 in
set_option maxRecDepth 100000 in
theorem gcode_Load.calls (k : Nat) (A0 : Option Addr) (c0 : Nat) (l0 : List Int) (r1 : List (S40)) (r2 : List (S42)) (r3 : Int) (w : World) (hr0 : Kd.C (Kd.int .u8) w A0 l0.length l0) (hc0 : l0.length ≤ c0) (h : gcode_Load.f k l0 = some (r1, r2, r3)) :
  Calls Tryd.prog 11 #[.slice A0 l0.length c0] w fun e w' => ∃ v0_ v1_ : Value, e = .returned (.tuple #[.agg #[v0_, v1_], .int .i64 r3]) ∧ Kd.R k40 40 w' w.heap.size (fun _ => True) v0_ r1 ∧ Kd.R k42 42 w' w.heap.size (fun _ => True) v1_ r2 ∧ Below w.heap.size w w' := by
 have hu27 := Tryd.underlying27
 have HR0 := ZM hr0
 have HC0 := ZM hc0
 clear hr0 hc0
 have HB := ZM (Below.refl w.heap.size w)
 have H : ((gcode_Take.f l0).bind fun bt195 => (if bt195.2.2 = 0 then ((valid_Graph.f k bt195.1 bt195.2.1).bind fun t203 => (if t203 = 0 then (some (bt195.1, bt195.2.1, 0)) else (some (([] : List (S40)), ([] : List (S42)), t203)))) else (some (([] : List (S40)), ([] : List (S42)), bt195.2.2)))) = some (r1, r2, r3) := h
 clear h
 replace H := Option.bind_eq_some_iff.mp H
 obtain ⟨⟨t195, t198, t201⟩, A20, H⟩ := H
 replace H : (if t201 = 0 then ((valid_Graph.f k t195 t198).bind fun t203 => (if t203 = 0 then (some (t195, t198, 0)) else (some (([] : List (S40)), ([] : List (S42)), t203)))) else (some (([] : List (S40)), ([] : List (S42)), t201))) = some (r1, r2, r3) := H
 have A2 := ZM A20
 clear A20
 by_cases c3 : t201 = 0
 ·rw [if_pos c3] at H
  have c3b0 : (t201 == 0) = true := beq_iff_eq.mpr c3
  have c3b1 : (t201 != 0) = false := bne_eq_false_iff_eq.mpr c3
  clear c3
  replace H := Option.bind_eq_some_iff.mp H
  obtain ⟨t203, A40, H⟩ := H
  replace H : (if t203 = 0 then (some (t195, t198, 0)) else (some (([] : List (S40)), ([] : List (S42)), t203))) = some (r1, r2, r3) := H
  have A4 := ZM A40
  clear A40
  by_cases c5 : t203 = 0
  ·rw [if_pos c5] at H
   have c5b0 : (t203 == 0) = true := beq_iff_eq.mpr c5
   have c5b1 : (t203 != 0) = false := bne_eq_false_iff_eq.mpr c5
   clear c5
   simp only [Option.some.injEq, Prod.mk.injEq] at H
   obtain ⟨rfl, rfl, rfl⟩ := H
   go_enter Tryd.func11, Tryd.ntmps11
   go_wp2_with (first | ((with_reducible refine gate_dst (N := 2) rfl ?_); refine ZBX 2 (cs := #[.slice none 0 0, .slice none 0 0]) (t := 27) ?_; intro gb194 hg w6 hbox hb; have n0_ := ZM (ZW (ZBB HB.out) hb); have n1_ := ZM (hbox); have n2_ := ZM (ZGE hg HB.out); have n3_ := ZM (ZGE hg HB.out); clear HB; have HB := n0_; have BK194 := n1_; have GW194 := n2_; have GE194 := n3_; clear n0_ n1_ n2_ n3_; clear hb hbox hg) | ((with_reducible refine gate_callee (f := 9) rfl ?_); refine goesL_ (some 9) rfl rfl Tryd.func9 (by kernel_rfl) rfl #[.slice A0 l0.length c0] rfl ZH ?_; (with_reducible refine (gcode_Take.calls _ _ l0 t195 t198 t201 _ ?side1 ?side2 A2.out).mono ?_); (case side1 => repeat (first | exact (Kd.C_below HR0.out HB.out) | (with_reducible refine Kd.C_alloc ?_ _) | (with_reducible refine Kd.C_drewN ?_ _) | (with_reducible refine Kd.C_drew ?_))); (case side2 => exact HC0.out); rintro e w7 ⟨v196, v199, rfl, ho0, ho1, hb⟩; refine ⟨_, rfl, ?_⟩; have n0_ := ZM (Kd.R_lower ho0 (ZV (ZBB HB.out))); have n1_ := ZM (Kd.R_lower ho1 (ZV (ZBB HB.out))); have n2_ := ZM (blk_below (ZBK BK194.out) hb); have n3_ := ZM (ZW (ZBB HB.out) hb); clear BK194; clear HB; have HO197 := n0_; have HO200 := n1_; have BK194 := n2_; have HB := n3_; clear n0_ n1_ n2_ n3_; (try clear hb); (try clear hb2); (try clear hk); (try clear hi); (try clear ho0); (try clear ho1)) | ((with_reducible refine gate_dst (N := 4) rfl ?_); refine ZBX 4 (cs := #[.slice none 0 0, .slice none 0 0]) (t := 27) ?_; intro gb202 hg w8 hbox hb; have n0_ := ZM (Kd.R_below (ZRK HO197.out) hb); have n1_ := ZM (Kd.R_below (ZRK HO200.out) hb); have n2_ := ZM (blk_below (ZBK BK194.out) hb); have n3_ := ZM (ZW (ZBB HB.out) hb); have n4_ := ZM (hbox); have n5_ := ZM (ZGE hg HB.out); have n6_ := ZM (ZGE hg HB.out); have n7_ := ZM (ZNE hg BK194.out); have n8_ := ZM (ZNG hg BK194.out); clear HO197; clear HO200; clear BK194; clear HB; have HO197 := n0_; have HO200 := n1_; have BK194 := n2_; have HB := n3_; have BK202 := n4_; have GW202 := n5_; have GE202 := n6_; have NB194_202 := n7_; have NB202_194 := n8_; clear n0_ n1_ n2_ n3_ n4_ n5_ n6_ n7_ n8_; clear hb hbox hg; obtain ⟨Ao9, co9, eo9⟩ := Kd.R_slice HO197.out; subst eo9; have hnb10 := NB202_194.out; have hnc10 := NB194_202.out; obtain ⟨hcz11_0, hcz11_1, hfz11_0, hfz11_1⟩ := ZC2 BK202.out; obtain ⟨Ao12, co12, eo12⟩ := Kd.R_slice HO200.out; subst eo12) | ((with_reducible refine gate_callee (f := 22) rfl ?_); refine goesL_ (some 17) rfl rfl Tryd.func22 (by kernel_rfl) rfl #[.agg #[.slice Ao9 t195.length co9, .slice Ao12 t198.length co12]] rfl ZH ?_; (with_reducible refine (valid_Graph.calls k _ _ t195 _ _ t198 t203 _ ?side1 ?side2 ?side3 ?side4 A4.out).mono ?_); (case side1 => refine (Kd.R_reads' (e := 40) (base := w.heap.size) (ok := fun k_ => True) (n := t195.length) (c := co9) ?_).2.2; exact (by (with_reducible repeat (first | apply ZY | apply ZX | apply ZZ)); exact (Kd.R_mono (Kd.R_far (p := ⟨gb202, 1, none⟩) (Kd.R_far (p := ⟨gb202, 0, none⟩) (Kd.R_types HO197.out BK202.out (by decide)) (fun _ hk => hk.2) (.slice Ao9 t195.length co9)) (fun _ hk => hk.2) (.slice Ao12 t198.length co12)) (fun _ h_ => h_.1)))); (case side2 => exact (Kd.R_reads' HO197.out).2.1); (case side3 => refine (Kd.R_reads' (e := 42) (base := w.heap.size) (ok := fun k_ => True) (n := t198.length) (c := co12) ?_).2.2; exact (by (with_reducible repeat (first | apply ZY | apply ZX | apply ZZ)); exact (Kd.R_mono (Kd.R_far (p := ⟨gb202, 1, none⟩) (Kd.R_far (p := ⟨gb202, 0, none⟩) (Kd.R_types HO200.out BK202.out (by decide)) (fun _ hk => hk.2) (.slice Ao9 t195.length co9)) (fun _ hk => hk.2) (.slice Ao12 t198.length co12)) (fun _ h_ => h_.1)))); (case side4 => exact (Kd.R_reads' HO200.out).2.1); rintro e w13 ⟨rfl, hb⟩; refine ⟨_, rfl, ?_⟩; have n0_ := ZM (Kd.R_below (by (with_reducible repeat (first | apply ZY | apply ZX | apply ZZ)); exact (Kd.R_mono (Kd.R_far (p := ⟨gb202, 1, none⟩) (Kd.R_far (p := ⟨gb202, 0, none⟩) (Kd.R_types HO197.out BK202.out (by decide)) (fun _ hk => hk.2) (.slice Ao9 t195.length co9)) (fun _ hk => hk.2) (.slice Ao12 t198.length co12)) (fun _ h_ => h_.1))) hb); have n1_ := ZM (Kd.R_below (by (with_reducible repeat (first | apply ZY | apply ZX | apply ZZ)); exact (Kd.R_mono (Kd.R_far (p := ⟨gb202, 1, none⟩) (Kd.R_far (p := ⟨gb202, 0, none⟩) (Kd.R_types HO200.out BK202.out (by decide)) (fun _ hk => hk.2) (.slice Ao9 t195.length co9)) (fun _ hk => hk.2) (.slice Ao12 t198.length co12)) (fun _ h_ => h_.1))) hb); have n2_ := ZM (blk_below (g := gb194) (o := .cells #[.slice none 0 0, .slice none 0 0] 27 (0, 0)) (ZBF BK194.out NB194_202.out) hb); have n3_ := ZM (blk_below (g := gb202) (o := .cells #[.slice Ao9 t195.length co9, .slice Ao12 t198.length co12] 27 (0, 0)) (by (with_reducible repeat (first | refine ZR ?_ _ | refine ZS ?_ | refine ZT ?_ _)); refine blk_put (cs := #[.slice Ao9 t195.length co9, .slice none 0 0]) ?_ 1 _ rfl; (with_reducible repeat (first | refine ZR ?_ _ | refine ZS ?_ | refine ZT ?_ _)); refine blk_put (cs := #[.slice none 0 0, .slice none 0 0]) ?_ 0 _ rfl; (with_reducible repeat (first | refine ZR ?_ _ | refine ZS ?_ | refine ZT ?_ _)); exact BK202.out) hb); have n4_ := ZM (ZW (ZBB HB.out) hb); clear HO197; clear HO200; clear BK194; clear BK202; clear HB; have HO197 := n0_; have HO200 := n1_; have BK194 := n2_; have BK202 := n3_; have HB := n4_; clear n0_ n1_ n2_ n3_ n4_; (try clear hb); (try clear hb2); (try clear hk); (try clear hi); obtain ⟨hcz14_0, hcz14_1, hfz14_0, hfz14_1⟩ := ZC2 BK202.out; obtain ⟨hcz15_0, hcz15_1, hfz15_0, hfz15_1⟩ := ZC2 BK194.out))
   refine bodyPost_ret (results_ct rfl _ _ gb194 27 #[.slice Ao9 t195.length co9, .slice Ao12 t198.length co12] (0, 0) _ rfl (by (with_reducible repeat (first | refine ZR ?_ _ | refine ZS ?_ | refine ZT ?_ _)); refine blk_put (cs := #[.slice Ao9 t195.length co9, .slice none 0 0]) ?_ 1 _ rfl; (with_reducible repeat (first | refine ZR ?_ _ | refine ZS ?_ | refine ZT ?_ _)); refine blk_put (cs := #[.slice none 0 0, .slice none 0 0]) ?_ 0 _ rfl; (with_reducible repeat (first | refine ZR ?_ _ | refine ZS ?_ | refine ZT ?_ _)); exact BK194.out) Tryd.underlying27 rfl (by kernel_rfl)) rfl ?_
   exact ⟨_, _, ZEE, by (with_reducible repeat (first | apply ZY | apply ZX | apply ZZ)); exact Kd.R_mono (Kd.R_far (p := ⟨gb194, 1, none⟩) (Kd.R_far (p := ⟨gb194, 0, none⟩) (Kd.R_types HO197.out BK194.out (by decide)) (fun _ hk => hk.2) (.slice Ao9 t195.length co9)) (fun _ hk => hk.2) (.slice Ao12 t198.length co12)) (fun _ hk => trivial), by (with_reducible repeat (first | apply ZY | apply ZX | apply ZZ)); exact Kd.R_mono (Kd.R_far (p := ⟨gb194, 1, none⟩) (Kd.R_far (p := ⟨gb194, 0, none⟩) (Kd.R_types HO200.out BK194.out (by decide)) (fun _ hk => hk.2) (.slice Ao9 t195.length co9)) (fun _ hk => hk.2) (.slice Ao12 t198.length co12)) (fun _ hk => trivial), ZBB HB.out⟩
  ·rw [if_neg c5] at H
   have c5b0 : (t203 == 0) = false := beq_eq_false_iff_ne.mpr c5
   have c5b1 : (t203 != 0) = true := bne_iff_ne.mpr c5
   simp only [Option.some.injEq, Prod.mk.injEq] at H
   obtain ⟨rfl, rfl, rfl⟩ := H
   go_enter Tryd.func11, Tryd.ntmps11
   go_wp2_with (first | ((with_reducible refine gate_dst (N := 2) rfl ?_); refine ZBX 2 (cs := #[.slice none 0 0, .slice none 0 0]) (t := 27) ?_; intro gb194 hg w16 hbox hb; have n0_ := ZM (ZW (ZBB HB.out) hb); have n1_ := ZM (hbox); have n2_ := ZM (ZGE hg HB.out); have n3_ := ZM (ZGE hg HB.out); clear HB; have HB := n0_; have BK194 := n1_; have GW194 := n2_; have GE194 := n3_; clear n0_ n1_ n2_ n3_; clear hb hbox hg) | ((with_reducible refine gate_callee (f := 9) rfl ?_); refine goesL_ (some 9) rfl rfl Tryd.func9 (by kernel_rfl) rfl #[.slice A0 l0.length c0] rfl ZH ?_; (with_reducible refine (gcode_Take.calls _ _ l0 t195 t198 t201 _ ?side1 ?side2 A2.out).mono ?_); (case side1 => repeat (first | exact (Kd.C_below HR0.out HB.out) | (with_reducible refine Kd.C_alloc ?_ _) | (with_reducible refine Kd.C_drewN ?_ _) | (with_reducible refine Kd.C_drew ?_))); (case side2 => exact HC0.out); rintro e w17 ⟨v196, v199, rfl, ho0, ho1, hb⟩; refine ⟨_, rfl, ?_⟩; have n0_ := ZM (Kd.R_lower ho0 (ZV (ZBB HB.out))); have n1_ := ZM (Kd.R_lower ho1 (ZV (ZBB HB.out))); have n2_ := ZM (blk_below (ZBK BK194.out) hb); have n3_ := ZM (ZW (ZBB HB.out) hb); clear BK194; clear HB; have HO197 := n0_; have HO200 := n1_; have BK194 := n2_; have HB := n3_; clear n0_ n1_ n2_ n3_; (try clear hb); (try clear hb2); (try clear hk); (try clear hi); (try clear ho0); (try clear ho1)) | ((with_reducible refine gate_dst (N := 4) rfl ?_); refine ZBX 4 (cs := #[.slice none 0 0, .slice none 0 0]) (t := 27) ?_; intro gb202 hg w18 hbox hb; have n0_ := ZM (Kd.R_below (ZRK HO197.out) hb); have n1_ := ZM (Kd.R_below (ZRK HO200.out) hb); have n2_ := ZM (blk_below (ZBK BK194.out) hb); have n3_ := ZM (ZW (ZBB HB.out) hb); have n4_ := ZM (hbox); have n5_ := ZM (ZGE hg HB.out); have n6_ := ZM (ZGE hg HB.out); have n7_ := ZM (ZNE hg BK194.out); have n8_ := ZM (ZNG hg BK194.out); clear HO197; clear HO200; clear BK194; clear HB; have HO197 := n0_; have HO200 := n1_; have BK194 := n2_; have HB := n3_; have BK202 := n4_; have GW202 := n5_; have GE202 := n6_; have NB194_202 := n7_; have NB202_194 := n8_; clear n0_ n1_ n2_ n3_ n4_ n5_ n6_ n7_ n8_; clear hb hbox hg; obtain ⟨Ao19, co19, eo19⟩ := Kd.R_slice HO197.out; subst eo19; have hnb20 := NB202_194.out; have hnc20 := NB194_202.out; obtain ⟨hcz21_0, hcz21_1, hfz21_0, hfz21_1⟩ := ZC2 BK202.out; obtain ⟨Ao22, co22, eo22⟩ := Kd.R_slice HO200.out; subst eo22) | ((with_reducible refine gate_callee (f := 22) rfl ?_); refine goesL_ (some 17) rfl rfl Tryd.func22 (by kernel_rfl) rfl #[.agg #[.slice Ao19 t195.length co19, .slice Ao22 t198.length co22]] rfl ZH ?_; (with_reducible refine (valid_Graph.calls k _ _ t195 _ _ t198 t203 _ ?side1 ?side2 ?side3 ?side4 A4.out).mono ?_); (case side1 => refine (Kd.R_reads' (e := 40) (base := w.heap.size) (ok := fun k_ => True) (n := t195.length) (c := co19) ?_).2.2; exact (by (with_reducible repeat (first | apply ZY | apply ZX | apply ZZ)); exact (Kd.R_mono (Kd.R_far (p := ⟨gb202, 1, none⟩) (Kd.R_far (p := ⟨gb202, 0, none⟩) (Kd.R_types HO197.out BK202.out (by decide)) (fun _ hk => hk.2) (.slice Ao19 t195.length co19)) (fun _ hk => hk.2) (.slice Ao22 t198.length co22)) (fun _ h_ => h_.1)))); (case side2 => exact (Kd.R_reads' HO197.out).2.1); (case side3 => refine (Kd.R_reads' (e := 42) (base := w.heap.size) (ok := fun k_ => True) (n := t198.length) (c := co22) ?_).2.2; exact (by (with_reducible repeat (first | apply ZY | apply ZX | apply ZZ)); exact (Kd.R_mono (Kd.R_far (p := ⟨gb202, 1, none⟩) (Kd.R_far (p := ⟨gb202, 0, none⟩) (Kd.R_types HO200.out BK202.out (by decide)) (fun _ hk => hk.2) (.slice Ao19 t195.length co19)) (fun _ hk => hk.2) (.slice Ao22 t198.length co22)) (fun _ h_ => h_.1)))); (case side4 => exact (Kd.R_reads' HO200.out).2.1); rintro e w23 ⟨rfl, hb⟩; refine ⟨_, rfl, ?_⟩; have n0_ := ZM (Kd.R_below (by (with_reducible repeat (first | apply ZY | apply ZX | apply ZZ)); exact (Kd.R_mono (Kd.R_far (p := ⟨gb202, 1, none⟩) (Kd.R_far (p := ⟨gb202, 0, none⟩) (Kd.R_types HO197.out BK202.out (by decide)) (fun _ hk => hk.2) (.slice Ao19 t195.length co19)) (fun _ hk => hk.2) (.slice Ao22 t198.length co22)) (fun _ h_ => h_.1))) hb); have n1_ := ZM (Kd.R_below (by (with_reducible repeat (first | apply ZY | apply ZX | apply ZZ)); exact (Kd.R_mono (Kd.R_far (p := ⟨gb202, 1, none⟩) (Kd.R_far (p := ⟨gb202, 0, none⟩) (Kd.R_types HO200.out BK202.out (by decide)) (fun _ hk => hk.2) (.slice Ao19 t195.length co19)) (fun _ hk => hk.2) (.slice Ao22 t198.length co22)) (fun _ h_ => h_.1))) hb); have n2_ := ZM (blk_below (g := gb194) (o := .cells #[.slice none 0 0, .slice none 0 0] 27 (0, 0)) (ZBF BK194.out NB194_202.out) hb); have n3_ := ZM (blk_below (g := gb202) (o := .cells #[.slice Ao19 t195.length co19, .slice Ao22 t198.length co22] 27 (0, 0)) (by (with_reducible repeat (first | refine ZR ?_ _ | refine ZS ?_ | refine ZT ?_ _)); refine blk_put (cs := #[.slice Ao19 t195.length co19, .slice none 0 0]) ?_ 1 _ rfl; (with_reducible repeat (first | refine ZR ?_ _ | refine ZS ?_ | refine ZT ?_ _)); refine blk_put (cs := #[.slice none 0 0, .slice none 0 0]) ?_ 0 _ rfl; (with_reducible repeat (first | refine ZR ?_ _ | refine ZS ?_ | refine ZT ?_ _)); exact BK202.out) hb); have n4_ := ZM (ZW (ZBB HB.out) hb); clear HO197; clear HO200; clear BK194; clear BK202; clear HB; have HO197 := n0_; have HO200 := n1_; have BK194 := n2_; have BK202 := n3_; have HB := n4_; clear n0_ n1_ n2_ n3_ n4_; (try clear hb); (try clear hb2); (try clear hk); (try clear hi); obtain ⟨hcz24_0, hcz24_1, hfz24_0, hfz24_1⟩ := ZC2 BK194.out))
   refine bodyPost_ret (results_ct rfl _ _ gb194 27 #[.slice none 0 0, .slice none 0 0] (0, 0) _ rfl (by (with_reducible repeat (first | refine ZR ?_ _ | refine ZS ?_ | refine ZT ?_ _)); refine blk_put (cs := #[.slice none 0 0, .slice none 0 0]) ?_ 1 _ rfl; (with_reducible repeat (first | refine ZR ?_ _ | refine ZS ?_ | refine ZT ?_ _)); refine blk_put (cs := #[.slice none 0 0, .slice none 0 0]) ?_ 0 _ rfl; (with_reducible repeat (first | refine ZR ?_ _ | refine ZS ?_ | refine ZT ?_ _)); exact BK194.out) Tryd.underlying27 rfl (by kernel_rfl)) rfl ?_
   exact ⟨_, _, ZEE, by first | exact Kd.R_nil _ _ _ _ _ | exact Kd.N_nil _ _ _ _ _ | exact Kd.V_nil _ _ _ _ _ | exact Kd.Q_nil _ _ _ _ _ | exact Kd.S_nil _ _ _ _ _, by first | exact Kd.R_nil _ _ _ _ _ | exact Kd.N_nil _ _ _ _ _ | exact Kd.V_nil _ _ _ _ _ | exact Kd.Q_nil _ _ _ _ _ | exact Kd.S_nil _ _ _ _ _, ZBB HB.out⟩
 ·rw [if_neg c3] at H
  have c3b0 : (t201 == 0) = false := beq_eq_false_iff_ne.mpr c3
  have c3b1 : (t201 != 0) = true := bne_iff_ne.mpr c3
  simp only [Option.some.injEq, Prod.mk.injEq] at H
  obtain ⟨rfl, rfl, rfl⟩ := H
  go_enter Tryd.func11, Tryd.ntmps11
  go_wp2_with (first | ((with_reducible refine gate_dst (N := 2) rfl ?_); refine ZBX 2 (cs := #[.slice none 0 0, .slice none 0 0]) (t := 27) ?_; intro gb194 hg w25 hbox hb; have n0_ := ZM (ZW (ZBB HB.out) hb); have n1_ := ZM (hbox); have n2_ := ZM (ZGE hg HB.out); have n3_ := ZM (ZGE hg HB.out); clear HB; have HB := n0_; have BK194 := n1_; have GW194 := n2_; have GE194 := n3_; clear n0_ n1_ n2_ n3_; clear hb hbox hg) | ((with_reducible refine gate_callee (f := 9) rfl ?_); refine goesL_ (some 9) rfl rfl Tryd.func9 (by kernel_rfl) rfl #[.slice A0 l0.length c0] rfl ZH ?_; (with_reducible refine (gcode_Take.calls _ _ l0 t195 t198 t201 _ ?side1 ?side2 A2.out).mono ?_); (case side1 => repeat (first | exact (Kd.C_below HR0.out HB.out) | (with_reducible refine Kd.C_alloc ?_ _) | (with_reducible refine Kd.C_drewN ?_ _) | (with_reducible refine Kd.C_drew ?_))); (case side2 => exact HC0.out); rintro e w26 ⟨v196, v199, rfl, ho0, ho1, hb⟩; refine ⟨_, rfl, ?_⟩; have n0_ := ZM (Kd.R_lower ho0 (ZV (ZBB HB.out))); have n1_ := ZM (Kd.R_lower ho1 (ZV (ZBB HB.out))); have n2_ := ZM (blk_below (ZBK BK194.out) hb); have n3_ := ZM (ZW (ZBB HB.out) hb); clear BK194; clear HB; have HO197 := n0_; have HO200 := n1_; have BK194 := n2_; have HB := n3_; clear n0_ n1_ n2_ n3_; (try clear hb); (try clear hb2); (try clear hk); (try clear hi); (try clear ho0); (try clear ho1)) | ((with_reducible refine gate_dst (N := 4) rfl ?_); refine ZBX 4 (cs := #[.slice none 0 0, .slice none 0 0]) (t := 27) ?_; intro gb202 hg w27 hbox hb; have n0_ := ZM (Kd.R_below (ZRK HO197.out) hb); have n1_ := ZM (Kd.R_below (ZRK HO200.out) hb); have n2_ := ZM (blk_below (ZBK BK194.out) hb); have n3_ := ZM (ZW (ZBB HB.out) hb); have n4_ := ZM (hbox); have n5_ := ZM (ZGE hg HB.out); have n6_ := ZM (ZGE hg HB.out); have n7_ := ZM (ZNE hg BK194.out); have n8_ := ZM (ZNG hg BK194.out); clear HO197; clear HO200; clear BK194; clear HB; have HO197 := n0_; have HO200 := n1_; have BK194 := n2_; have HB := n3_; have BK202 := n4_; have GW202 := n5_; have GE202 := n6_; have NB194_202 := n7_; have NB202_194 := n8_; clear n0_ n1_ n2_ n3_ n4_ n5_ n6_ n7_ n8_; clear hb hbox hg; obtain ⟨Ao28, co28, eo28⟩ := Kd.R_slice HO197.out; subst eo28; have hnb29 := NB202_194.out; have hnc29 := NB194_202.out; obtain ⟨hcz30_0, hcz30_1, hfz30_0, hfz30_1⟩ := ZC2 BK202.out; obtain ⟨Ao31, co31, eo31⟩ := Kd.R_slice HO200.out; subst eo31; obtain ⟨hcz32_0, hcz32_1, hfz32_0, hfz32_1⟩ := ZC2 BK194.out))
  refine bodyPost_ret (results_ct rfl _ _ gb194 27 #[.slice none 0 0, .slice none 0 0] (0, 0) _ rfl (by (with_reducible repeat (first | refine ZR ?_ _ | refine ZS ?_ | refine ZT ?_ _)); refine blk_put (cs := #[.slice none 0 0, .slice none 0 0]) ?_ 1 _ rfl; (with_reducible repeat (first | refine ZR ?_ _ | refine ZS ?_ | refine ZT ?_ _)); refine blk_put (cs := #[.slice none 0 0, .slice none 0 0]) ?_ 0 _ rfl; (with_reducible repeat (first | refine ZR ?_ _ | refine ZS ?_ | refine ZT ?_ _)); refine blk_far ?_ NB194_202.out _; (with_reducible repeat (first | refine ZR ?_ _ | refine ZS ?_ | refine ZT ?_ _)); refine blk_far ?_ NB194_202.out _; (with_reducible repeat (first | refine ZR ?_ _ | refine ZS ?_ | refine ZT ?_ _)); exact BK194.out) Tryd.underlying27 rfl (by kernel_rfl)) rfl ?_
  exact ⟨_, _, ZEE, by first | exact Kd.R_nil _ _ _ _ _ | exact Kd.N_nil _ _ _ _ _ | exact Kd.V_nil _ _ _ _ _ | exact Kd.Q_nil _ _ _ _ _ | exact Kd.S_nil _ _ _ _ _, by first | exact Kd.R_nil _ _ _ _ _ | exact Kd.N_nil _ _ _ _ _ | exact Kd.V_nil _ _ _ _ _ | exact Kd.Q_nil _ _ _ _ _ | exact Kd.S_nil _ _ _ _ _, ZBB HB.out⟩

/-! ### meanderref06_small: function 71 -/
def meanderref06_small.f (a0 : Int) : Option (Bool) := if a0 ≥ (-1000) then (some (decide (a0 ≤ 1000))) else (some false)
set_option maxHeartbeats 8000000 in
set_option maxRecDepth 100000 in
theorem meanderref06_small.calls (a0 : Int) (r : Bool) (w : World) (h : meanderref06_small.f a0 = some r) :
  Calls Tryd.prog 71 #[.int .i64 a0] w fun e w' => e = .returned (.bool r) ∧ Drawn0 w w' := by
 have H : (if a0 ≥ (-1000) then (some (decide (a0 ≤ 1000))) else (some false)) = some r := h
 clear h
 by_cases c2 : a0 ≥ (-1000)
 ·rw [if_pos c2] at H
  have c2b0 : decide ((-1000) ≤ a0) = true := decide_eq_true c2
  clear c2
  obtain rfl := Option.some.inj H
  go_enter Tryd.func71, Tryd.ntmps71
  go_wp2
  go_ret
  exact ⟨ZE, ZD⟩
 ·rw [if_neg c2] at H
  have c2b0 : decide ((-1000) ≤ a0) = false := decide_eq_false c2
  clear c2
  obtain rfl := Option.some.inj H
  go_enter Tryd.func71, Tryd.ntmps71
  go_wp2
  go_ret
  exact ⟨ZE, ZD⟩

/-! ### meanderref06_MayMap: function 40 -/
def meanderref06_MayMap.f (a0 : Int) (a1 : Int) : Option (Bool) := if a0 ≥ 1 then (if a0 ≤ 5 then ((meanderref06_small.f a1).bind fun t204 => (if t204 = true then (if a0 = 3 then (some (decide (a1 ≥ 1))) else (some true)) else (some false))) else (some false)) else (some false)
set_option maxHeartbeats 8000000 in
set_option maxRecDepth 100000 in
theorem meanderref06_MayMap.calls (a0 : Int) (a1 : Int) (r : Bool) (w : World) (h : meanderref06_MayMap.f a0 a1 = some r) :
  Calls Tryd.prog 40 #[.int .i64 a0, .int .i64 a1] w fun e w' => e = .returned (.bool r) ∧ Drawn0 w w' := by
 have H : (if a0 ≥ 1 then (if a0 ≤ 5 then ((meanderref06_small.f a1).bind fun t204 => (if t204 = true then (if a0 = 3 then (some (decide (a1 ≥ 1))) else (some true)) else (some false))) else (some false)) else (some false)) = some r := h
 clear h
 by_cases c3 : a0 ≥ 1
 ·rw [if_pos c3] at H
  have c3b0 : decide (1 ≤ a0) = true := decide_eq_true c3
  clear c3
  by_cases c4 : a0 ≤ 5
  ·rw [if_pos c4] at H
   have c4b0 : decide (a0 ≤ 5) = true := decide_eq_true c4
   clear c4
   replace H := Option.bind_eq_some_iff.mp H
   obtain ⟨t204, A50, H⟩ := H
   replace H : (if t204 = true then (if a0 = 3 then (some (decide (a1 ≥ 1))) else (some true)) else (some false)) = some r := H
   have A5 := ZM A50
   clear A50
   by_cases c6 : t204 = true
   ·subst c6
    have H1 : (if a0 = 3 then (some (decide (a1 ≥ 1))) else (some true)) = some r := by rw [if_pos rfl] at H; exact H
    clear H
    have H := H1
    clear H1
    by_cases c7 : a0 = 3
    ·rw [if_pos c7] at H
     have c7b0 : (a0 == 3) = true := beq_iff_eq.mpr c7
     have c7b1 : (a0 != 3) = false := bne_eq_false_iff_eq.mpr c7
     clear c7
     obtain rfl := Option.some.inj H
     go_enter Tryd.func40, Tryd.ntmps40
     go_wp2_with (first | (go_at_call 71; (with_reducible refine (meanderref06_small.calls a1 true _ A5.out).mono ?_); rintro e w' ⟨rfl, ⟨nd, rfl⟩⟩))
     go_ret
     exact ⟨ZE, ZD⟩
    ·rw [if_neg c7] at H
     have c7b0 : (a0 == 3) = false := beq_eq_false_iff_ne.mpr c7
     have c7b1 : (a0 != 3) = true := bne_iff_ne.mpr c7
     obtain rfl := Option.some.inj H
     go_enter Tryd.func40, Tryd.ntmps40
     go_wp2_with (first | (go_at_call 71; (with_reducible refine (meanderref06_small.calls a1 true _ A5.out).mono ?_); rintro e w' ⟨rfl, ⟨nd, rfl⟩⟩))
     go_ret
     exact ⟨ZE, ZD⟩
   ·replace c6 := Bool.eq_false_iff.mpr c6
    subst c6
    have H1 : (some false) = some r := by rw [if_neg (show ¬ (false = true) by decide)] at H; exact H
    clear H
    have H := H1
    clear H1
    obtain rfl := Option.some.inj H
    go_enter Tryd.func40, Tryd.ntmps40
    go_wp2_with (first | (go_at_call 71; (with_reducible refine (meanderref06_small.calls a1 false _ A5.out).mono ?_); rintro e w' ⟨rfl, ⟨nd, rfl⟩⟩))
    go_ret
    exact ⟨ZE, ZD⟩
  ·rw [if_neg c4] at H
   have c4b0 : decide (a0 ≤ 5) = false := decide_eq_false c4
   clear c4
   obtain rfl := Option.some.inj H
   go_enter Tryd.func40, Tryd.ntmps40
   go_wp2
   go_ret
   exact ⟨ZE, ZD⟩
 ·rw [if_neg c3] at H
  have c3b0 : decide (1 ≤ a0) = false := decide_eq_false c3
  clear c3
  obtain rfl := Option.some.inj H
  go_enter Tryd.func40, Tryd.ntmps40
  go_wp2
  go_ret
  exact ⟨ZE, ZD⟩

/-! ### meanderref06_MayFilter: function 41 -/
def meanderref06_MayFilter.f (a0 : Int) (a1 : Int) : Option (Bool) := if a0 ≥ 1 then (if a0 ≤ 4 then ((meanderref06_small.f a1).bind fun t205 => (if t205 = true then (if a0 = 3 then (some (decide (a1 ≥ 1))) else (some true)) else (some false))) else (some false)) else (some false)
set_option maxHeartbeats 8000000 in
set_option maxRecDepth 100000 in
theorem meanderref06_MayFilter.calls (a0 : Int) (a1 : Int) (r : Bool) (w : World) (h : meanderref06_MayFilter.f a0 a1 = some r) :
  Calls Tryd.prog 41 #[.int .i64 a0, .int .i64 a1] w fun e w' => e = .returned (.bool r) ∧ Drawn0 w w' := by
 have H : (if a0 ≥ 1 then (if a0 ≤ 4 then ((meanderref06_small.f a1).bind fun t205 => (if t205 = true then (if a0 = 3 then (some (decide (a1 ≥ 1))) else (some true)) else (some false))) else (some false)) else (some false)) = some r := h
 clear h
 by_cases c3 : a0 ≥ 1
 ·rw [if_pos c3] at H
  have c3b0 : decide (1 ≤ a0) = true := decide_eq_true c3
  clear c3
  by_cases c4 : a0 ≤ 4
  ·rw [if_pos c4] at H
   have c4b0 : decide (a0 ≤ 4) = true := decide_eq_true c4
   clear c4
   replace H := Option.bind_eq_some_iff.mp H
   obtain ⟨t205, A50, H⟩ := H
   replace H : (if t205 = true then (if a0 = 3 then (some (decide (a1 ≥ 1))) else (some true)) else (some false)) = some r := H
   have A5 := ZM A50
   clear A50
   by_cases c6 : t205 = true
   ·subst c6
    have H1 : (if a0 = 3 then (some (decide (a1 ≥ 1))) else (some true)) = some r := by rw [if_pos rfl] at H; exact H
    clear H
    have H := H1
    clear H1
    by_cases c7 : a0 = 3
    ·rw [if_pos c7] at H
     have c7b0 : (a0 == 3) = true := beq_iff_eq.mpr c7
     have c7b1 : (a0 != 3) = false := bne_eq_false_iff_eq.mpr c7
     clear c7
     obtain rfl := Option.some.inj H
     go_enter Tryd.func41, Tryd.ntmps41
     go_wp2_with (first | (go_at_call 71; (with_reducible refine (meanderref06_small.calls a1 true _ A5.out).mono ?_); rintro e w' ⟨rfl, ⟨nd, rfl⟩⟩))
     go_ret
     exact ⟨ZE, ZD⟩
    ·rw [if_neg c7] at H
     have c7b0 : (a0 == 3) = false := beq_eq_false_iff_ne.mpr c7
     have c7b1 : (a0 != 3) = true := bne_iff_ne.mpr c7
     obtain rfl := Option.some.inj H
     go_enter Tryd.func41, Tryd.ntmps41
     go_wp2_with (first | (go_at_call 71; (with_reducible refine (meanderref06_small.calls a1 true _ A5.out).mono ?_); rintro e w' ⟨rfl, ⟨nd, rfl⟩⟩))
     go_ret
     exact ⟨ZE, ZD⟩
   ·replace c6 := Bool.eq_false_iff.mpr c6
    subst c6
    have H1 : (some false) = some r := by rw [if_neg (show ¬ (false = true) by decide)] at H; exact H
    clear H
    have H := H1
    clear H1
    obtain rfl := Option.some.inj H
    go_enter Tryd.func41, Tryd.ntmps41
    go_wp2_with (first | (go_at_call 71; (with_reducible refine (meanderref06_small.calls a1 false _ A5.out).mono ?_); rintro e w' ⟨rfl, ⟨nd, rfl⟩⟩))
    go_ret
    exact ⟨ZE, ZD⟩
  ·rw [if_neg c4] at H
   have c4b0 : decide (a0 ≤ 4) = false := decide_eq_false c4
   clear c4
   obtain rfl := Option.some.inj H
   go_enter Tryd.func41, Tryd.ntmps41
   go_wp2
   go_ret
   exact ⟨ZE, ZD⟩
 ·rw [if_neg c3] at H
  have c3b0 : decide (1 ≤ a0) = false := decide_eq_false c3
  clear c3
  obtain rfl := Option.some.inj H
  go_enter Tryd.func41, Tryd.ntmps41
  go_wp2
  go_ret
  exact ⟨ZE, ZD⟩

/-! ### meanderref06_MayReduce: function 42 -/
def meanderref06_MayReduce.f (a0 : Int) : Option (Bool) := if a0 ≥ 1 then (some (decide (a0 ≤ 4))) else (some false)
set_option maxHeartbeats 8000000 in
set_option maxRecDepth 100000 in
theorem meanderref06_MayReduce.calls (a0 : Int) (r : Bool) (w : World) (h : meanderref06_MayReduce.f a0 = some r) :
  Calls Tryd.prog 42 #[.int .i64 a0] w fun e w' => e = .returned (.bool r) ∧ Drawn0 w w' := by
 have H : (if a0 ≥ 1 then (some (decide (a0 ≤ 4))) else (some false)) = some r := h
 clear h
 by_cases c2 : a0 ≥ 1
 ·rw [if_pos c2] at H
  have c2b0 : decide (1 ≤ a0) = true := decide_eq_true c2
  clear c2
  obtain rfl := Option.some.inj H
  go_enter Tryd.func42, Tryd.ntmps42
  go_wp2
  go_ret
  exact ⟨ZE, ZD⟩
 ·rw [if_neg c2] at H
  have c2b0 : decide (1 ≤ a0) = false := decide_eq_false c2
  clear c2
  obtain rfl := Option.some.inj H
  go_enter Tryd.func42, Tryd.ntmps42
  go_wp2
  go_ret
  exact ⟨ZE, ZD⟩

/-! ### meanderref07_May: function 43 -/
def meanderref07_May.f (a0 : Int) (a1 : Int) : Option (Bool) := if a0 ≥ 1 then (if a0 ≤ 20 then (if a1 ≥ 1 then (some (decide (a1 ≤ a0))) else (some false)) else (some false)) else (some false)
set_option maxHeartbeats 8000000 in
set_option maxRecDepth 100000 in
theorem meanderref07_May.calls (a0 : Int) (a1 : Int) (r : Bool) (w : World) (h : meanderref07_May.f a0 a1 = some r) :
  Calls Tryd.prog 43 #[.int .i64 a0, .int .i64 a1] w fun e w' => e = .returned (.bool r) ∧ Drawn0 w w' := by
 have H : (if a0 ≥ 1 then (if a0 ≤ 20 then (if a1 ≥ 1 then (some (decide (a1 ≤ a0))) else (some false)) else (some false)) else (some false)) = some r := h
 clear h
 by_cases c3 : a0 ≥ 1
 ·rw [if_pos c3] at H
  have c3b0 : decide (1 ≤ a0) = true := decide_eq_true c3
  clear c3
  by_cases c4 : a0 ≤ 20
  ·rw [if_pos c4] at H
   have c4b0 : decide (a0 ≤ 20) = true := decide_eq_true c4
   clear c4
   by_cases c5 : a1 ≥ 1
   ·rw [if_pos c5] at H
    have c5b0 : decide (1 ≤ a1) = true := decide_eq_true c5
    clear c5
    obtain rfl := Option.some.inj H
    go_enter Tryd.func43, Tryd.ntmps43
    go_wp2
    go_ret
    exact ⟨ZE, ZD⟩
   ·rw [if_neg c5] at H
    have c5b0 : decide (1 ≤ a1) = false := decide_eq_false c5
    clear c5
    obtain rfl := Option.some.inj H
    go_enter Tryd.func43, Tryd.ntmps43
    go_wp2
    go_ret
    exact ⟨ZE, ZD⟩
  ·rw [if_neg c4] at H
   have c4b0 : decide (a0 ≤ 20) = false := decide_eq_false c4
   clear c4
   obtain rfl := Option.some.inj H
   go_enter Tryd.func43, Tryd.ntmps43
   go_wp2
   go_ret
   exact ⟨ZE, ZD⟩
 ·rw [if_neg c3] at H
  have c3b0 : decide (1 ≤ a0) = false := decide_eq_false c3
  clear c3
  obtain rfl := Option.some.inj H
  go_enter Tryd.func43, Tryd.ntmps43
  go_wp2
  go_ret
  exact ⟨ZE, ZD⟩

end Go.Proofs.YtbjjcolbomaodaaDoor.PTks
