-- Laid by hprint.py of this repo: the kit's printer, and contracts by hand beside it. Not trusted: Lean checks it.
import Derived.Test.YtbjjcolbomaodaaDoorWZ
import Derived.Test.YtbjjcolbomaodaaDoorPLdpx0
import Derived.Test.YtbjjcolbomaodaaDoorPLdpx1
import Derived.Test.YtbjjcolbomaodaaDoorPLdpx2
import Derived.Test.YtbjjcolbomaodaaDoorPLdpx5
import Derived.Test.YtbjjcolbomaodaaDoorPLdpx11
namespace Go.Proofs.YtbjjcolbomaodaaDoor.PLdp
open Go.RowKit Go.Proofs.YtbjjcolbomaodaaDoorW.PrintWords Go.Proofs.YtbjjcolbomaodaaDoorW.PrintLast Go.Proofs.YtbjjcolbomaodaaDoorW.PrintMore
attribute [local go_sem] max2_int min2_int max_two min_two max_three min_three max_four min_four   -- for this text's walks alone
set_option linter.unusedVariables false
set_option linter.unusedSimpArgs false

attribute [local go_sem high] eqA40 eqA42
/-! ### gcode_Load: function 11 -/
def gcode_Load.f (k : Nat) (l0 : List Int) : Option ((List (S40)) × (List (S42)) × Int) := (gcode_Take.f l0).bind fun bt174 => (if bt174.2.2 = 0 then ((valid_Graph.f k bt174.1 bt174.2.1).bind fun t182 => (if t182 = 0 then (some (bt174.1, bt174.2.1, 0)) else (some (([] : List (S40)), ([] : List (S42)), t182)))) else (some (([] : List (S40)), ([] : List (S42)), bt174.2.2)))
theorem gcode_Load.mono : ∀ a0 k, LeO (gcode_Load.f k a0) (gcode_Load.f (k + 1) a0) := by
 intro a0 k
 unfold gcode_Load.f
 repeat' first
   | (with_reducible exact valid_Graph.mono _ _ _)
   | (with_reducible exact LeO.refl _)
   | (with_reducible exact LeO.none _)
   | (with_reducible refine LeO.ite ?_ ?_)
   | (with_reducible refine LeO.bind ?_ (fun _ => ?_))
   | exact valid_Graph.mono _ _ _
   | exact LeO.none _
   | refine LeO.ite ?_ ?_
   | refine LeO.bind ?_ (fun _ => ?_)
set_option maxHeartbeats 8000000 in
set_option maxRecDepth 100000 in
theorem gcode_Load.calls (k : Nat) (A0 : Option Addr) (c0 : Nat) (l0 : List Int) (r1 : List (S40)) (r2 : List (S42)) (r3 : Int) (w : World) (hr0 : Kd.C (Kd.int .u8) w A0 l0.length l0) (hc0 : l0.length ≤ c0) (h : gcode_Load.f k l0 = some (r1, r2, r3)) :
  Calls Tryd.prog 11 #[.slice A0 l0.length c0] w fun e w' => ∃ v0_ v1_ : Value, e = .returned (.tuple #[.agg #[v0_, v1_], .int .i64 r3]) ∧ Kd.R k40 40 w' w.heap.size (fun _ => True) v0_ r1 ∧ Kd.R k42 42 w' w.heap.size (fun _ => True) v1_ r2 ∧ Below w.heap.size w w' := by
 have hu27 := Tryd.underlying27
 have HR0 := ZM hr0
 have HC0 := ZM hc0
 clear hr0 hc0
 have HB := ZM (Below.refl w.heap.size w)
 have H : ((gcode_Take.f l0).bind fun bt174 => (if bt174.2.2 = 0 then ((valid_Graph.f k bt174.1 bt174.2.1).bind fun t182 => (if t182 = 0 then (some (bt174.1, bt174.2.1, 0)) else (some (([] : List (S40)), ([] : List (S42)), t182)))) else (some (([] : List (S40)), ([] : List (S42)), bt174.2.2)))) = some (r1, r2, r3) := h
 clear h
 replace H := Option.bind_eq_some_iff.mp H
 obtain ⟨⟨t174, t177, t180⟩, A20, H⟩ := H
 replace H : (if t180 = 0 then ((valid_Graph.f k t174 t177).bind fun t182 => (if t182 = 0 then (some (t174, t177, 0)) else (some (([] : List (S40)), ([] : List (S42)), t182)))) else (some (([] : List (S40)), ([] : List (S42)), t180))) = some (r1, r2, r3) := H
 have A2 := ZM A20
 clear A20
 by_cases c3 : t180 = 0
 ·rw [if_pos c3] at H
  have c3b0 : (t180 == 0) = true := beq_iff_eq.mpr c3
  have c3b1 : (t180 != 0) = false := bne_eq_false_iff_eq.mpr c3
  clear c3
  replace H := Option.bind_eq_some_iff.mp H
  obtain ⟨t182, A40, H⟩ := H
  replace H : (if t182 = 0 then (some (t174, t177, 0)) else (some (([] : List (S40)), ([] : List (S42)), t182))) = some (r1, r2, r3) := H
  have A4 := ZM A40
  clear A40
  by_cases c5 : t182 = 0
  ·rw [if_pos c5] at H
   have c5b0 : (t182 == 0) = true := beq_iff_eq.mpr c5
   have c5b1 : (t182 != 0) = false := bne_eq_false_iff_eq.mpr c5
   clear c5
   simp only [Option.some.injEq, Prod.mk.injEq] at H
   obtain ⟨rfl, rfl, rfl⟩ := H
   go_enter Tryd.func11, Tryd.ntmps11
   go_wp2_with (first | ((with_reducible refine gate_dst (N := 2) rfl ?_); refine box_event ?hg (N := 2) ?hd (cs := #[.slice none 0 0, .slice none 0 0]) (t := 27) ?hr ?_; (case hd => rfl); (case hg => rfl); (case hr => first | (go_simp; done) | (go_simp; rfl)); intro gb173 hg w6 hbox hb; have n0_ := ZM (ZW (ZBB HB.out) hb); have n1_ := ZM (hbox); have n2_ := ZM ((by rw [hg]; exact (ZV (ZBB HB.out)) : w.heap.size ≤ gb173)); have n3_ := ZM ((by rw [hg]; exact (ZV (ZBB HB.out)) : w.heap.size ≤ gb173)); clear HB; have HB := n0_; have BK173 := n1_; have GW173 := n2_; have GE173 := n3_; clear n0_ n1_ n2_ n3_; clear hb hbox hg) | ((with_reducible refine gate_callee (f := 9) rfl ?_); refine goesL_ (some 9) rfl rfl Tryd.func9 (by kernel_rfl) rfl #[.slice A0 l0.length c0] rfl ZH ?_; (with_reducible refine (gcode_Take.calls _ _ l0 t174 t177 t180 _ ?side1 ?side2 A2.out).mono ?_); (case side1 => repeat (first | exact (Kd.C_below HR0.out HB.out) | (with_reducible refine Kd.C_alloc ?_ _) | (with_reducible refine Kd.C_drewN ?_ _) | (with_reducible refine Kd.C_drew ?_))); (case side2 => exact HC0.out); rintro e w7 ⟨v175, v178, rfl, ho0, ho1, hb⟩; refine ⟨_, rfl, ?_⟩; have n0_ := ZM (Kd.R_lower ho0 (ZV (ZBB HB.out))); have n1_ := ZM (Kd.R_lower ho1 (ZV (ZBB HB.out))); have n2_ := ZM (blk_below (g := gb173) (o := .cells #[.slice none 0 0, .slice none 0 0] 27 (0, 0)) (ZBK BK173.out) hb); have n3_ := ZM (ZW (ZBB HB.out) hb); clear BK173; clear HB; have HO176 := n0_; have HO179 := n1_; have BK173 := n2_; have HB := n3_; clear n0_ n1_ n2_ n3_; (try clear hb); (try clear hb2); (try clear hk); (try clear hi); (try clear ho0); (try clear ho1)) | ((with_reducible refine gate_dst (N := 4) rfl ?_); refine box_event ?hg (N := 4) ?hd (cs := #[.slice none 0 0, .slice none 0 0]) (t := 27) ?hr ?_; (case hd => rfl); (case hg => rfl); (case hr => first | (go_simp; done) | (go_simp; rfl)); intro gb181 hg w8 hbox hb; have n0_ := ZM (Kd.R_below (ZRK HO176.out) hb); have n1_ := ZM (Kd.R_below (ZRK HO179.out) hb); have n2_ := ZM (blk_below (g := gb173) (o := .cells #[.slice none 0 0, .slice none 0 0] 27 (0, 0)) (ZBK BK173.out) hb); have n3_ := ZM (ZW (ZBB HB.out) hb); have n4_ := ZM (hbox); have n5_ := ZM ((by rw [hg]; exact (ZV (ZBB HB.out)) : w.heap.size ≤ gb181)); have n6_ := ZM ((by rw [hg]; exact (ZV (ZBB HB.out)) : w.heap.size ≤ gb181)); have n7_ := ZM ((by rw [hg]; exact Nat.ne_of_lt (blk_lt (g := gb173) (o := .cells #[.slice none 0 0, .slice none 0 0] 27 (0, 0)) (ZBK BK173.out)) : gb173 ≠ gb181)); have n8_ := ZM ((by rw [hg]; exact Nat.ne_of_gt (blk_lt (g := gb173) (o := .cells #[.slice none 0 0, .slice none 0 0] 27 (0, 0)) (ZBK BK173.out)) : gb181 ≠ gb173)); clear HO176; clear HO179; clear BK173; clear HB; have HO176 := n0_; have HO179 := n1_; have BK173 := n2_; have HB := n3_; have BK181 := n4_; have GW181 := n5_; have GE181 := n6_; have NB173_181 := n7_; have NB181_173 := n8_; clear n0_ n1_ n2_ n3_ n4_ n5_ n6_ n7_ n8_; clear hb hbox hg; obtain ⟨Ao9, co9, eo9⟩ := Kd.R_slice HO176.out; subst eo9; have hnb10 := NB181_173.out; have hnc10 := NB173_181.out; have hcz11_0 : w8.cell? ⟨gb181, 0, none⟩ = some (.slice none 0 0) := (ZG BK181.out 0).trans rfl; have hcz11_1 : w8.cell? ⟨gb181, 1, none⟩ = some (.slice none 0 0) := (ZG BK181.out 1).trans rfl; have hfz11_0 := ZF BK181.out 0; have hfz11_1 := ZF BK181.out 1; obtain ⟨Ao12, co12, eo12⟩ := Kd.R_slice HO179.out; subst eo12) | ((with_reducible refine gate_callee (f := 22) rfl ?_); refine goesL_ (some 17) rfl rfl Tryd.func22 (by kernel_rfl) rfl #[.agg #[.slice Ao9 t174.length co9, .slice Ao12 t177.length co12]] rfl ZH ?_; (with_reducible refine (valid_Graph.calls k _ _ t174 _ _ t177 t182 _ ?side1 ?side2 ?side3 ?side4 A4.out).mono ?_); (case side1 => refine (Kd.R_reads' (e := 40) (base := w.heap.size) (ok := fun k_ => True) (n := t174.length) (c := co9) ?_).2.2; exact (by (with_reducible repeat (first | apply ZY | apply ZX | apply ZZ)); exact (Kd.R_mono (Kd.R_far (p := ⟨gb181, 1, none⟩) (Kd.R_far (p := ⟨gb181, 0, none⟩) (Kd.R_types HO176.out BK181.out (by decide)) (fun _ hk => hk.2) (.slice Ao9 t174.length co9)) (fun _ hk => hk.2) (.slice Ao12 t177.length co12)) (fun _ h_ => h_.1)))); (case side2 => exact (Kd.R_reads' HO176.out).2.1); (case side3 => refine (Kd.R_reads' (e := 42) (base := w.heap.size) (ok := fun k_ => True) (n := t177.length) (c := co12) ?_).2.2; exact (by (with_reducible repeat (first | apply ZY | apply ZX | apply ZZ)); exact (Kd.R_mono (Kd.R_far (p := ⟨gb181, 1, none⟩) (Kd.R_far (p := ⟨gb181, 0, none⟩) (Kd.R_types HO179.out BK181.out (by decide)) (fun _ hk => hk.2) (.slice Ao9 t174.length co9)) (fun _ hk => hk.2) (.slice Ao12 t177.length co12)) (fun _ h_ => h_.1)))); (case side4 => exact (Kd.R_reads' HO179.out).2.1); rintro e w13 ⟨rfl, hb⟩; refine ⟨_, rfl, ?_⟩; have n0_ := ZM (Kd.R_below (by (with_reducible repeat (first | apply ZY | apply ZX | apply ZZ)); exact (Kd.R_mono (Kd.R_far (p := ⟨gb181, 1, none⟩) (Kd.R_far (p := ⟨gb181, 0, none⟩) (Kd.R_types HO176.out BK181.out (by decide)) (fun _ hk => hk.2) (.slice Ao9 t174.length co9)) (fun _ hk => hk.2) (.slice Ao12 t177.length co12)) (fun _ h_ => h_.1))) hb); have n1_ := ZM (Kd.R_below (by (with_reducible repeat (first | apply ZY | apply ZX | apply ZZ)); exact (Kd.R_mono (Kd.R_far (p := ⟨gb181, 1, none⟩) (Kd.R_far (p := ⟨gb181, 0, none⟩) (Kd.R_types HO179.out BK181.out (by decide)) (fun _ hk => hk.2) (.slice Ao9 t174.length co9)) (fun _ hk => hk.2) (.slice Ao12 t177.length co12)) (fun _ h_ => h_.1))) hb); have n2_ := ZM (blk_below (g := gb173) (o := .cells #[.slice none 0 0, .slice none 0 0] 27 (0, 0)) (by (with_reducible repeat (first | refine ZR ?_ _ | refine ZS ?_ | refine ZT ?_ _)); refine blk_far ?_ NB173_181.out _; (with_reducible repeat (first | refine ZR ?_ _ | refine ZS ?_ | refine ZT ?_ _)); refine blk_far ?_ NB173_181.out _; (with_reducible repeat (first | refine ZR ?_ _ | refine ZS ?_ | refine ZT ?_ _)); exact BK173.out) hb); have n3_ := ZM (blk_below (g := gb181) (o := .cells #[.slice Ao9 t174.length co9, .slice Ao12 t177.length co12] 27 (0, 0)) (by (with_reducible repeat (first | refine ZR ?_ _ | refine ZS ?_ | refine ZT ?_ _)); refine blk_put (cs := #[.slice Ao9 t174.length co9, .slice none 0 0]) ?_ 1 _ rfl; (with_reducible repeat (first | refine ZR ?_ _ | refine ZS ?_ | refine ZT ?_ _)); refine blk_put (cs := #[.slice none 0 0, .slice none 0 0]) ?_ 0 _ rfl; (with_reducible repeat (first | refine ZR ?_ _ | refine ZS ?_ | refine ZT ?_ _)); exact BK181.out) hb); have n4_ := ZM (ZW (ZBB HB.out) hb); clear HO176; clear HO179; clear BK173; clear BK181; clear HB; have HO176 := n0_; have HO179 := n1_; have BK173 := n2_; have BK181 := n3_; have HB := n4_; clear n0_ n1_ n2_ n3_ n4_; (try clear hb); (try clear hb2); (try clear hk); (try clear hi); have hcz14_0 : w13.cell? ⟨gb181, 0, none⟩ = some (.slice Ao9 t174.length co9) := (ZG BK181.out 0).trans rfl; have hcz14_1 : w13.cell? ⟨gb181, 1, none⟩ = some (.slice Ao12 t177.length co12) := (ZG BK181.out 1).trans rfl; have hfz14_0 := ZF BK181.out 0; have hfz14_1 := ZF BK181.out 1; have hcz15_0 : w13.cell? ⟨gb173, 0, none⟩ = some (.slice none 0 0) := (ZG BK173.out 0).trans rfl; have hcz15_1 : w13.cell? ⟨gb173, 1, none⟩ = some (.slice none 0 0) := (ZG BK173.out 1).trans rfl; have hfz15_0 := ZF BK173.out 0; have hfz15_1 := ZF BK173.out 1))
   refine bodyPost_ret (results_ct rfl _ _ gb173 27 #[.slice Ao9 t174.length co9, .slice Ao12 t177.length co12] (0, 0) _ rfl (by (with_reducible repeat (first | refine ZR ?_ _ | refine ZS ?_ | refine ZT ?_ _)); refine blk_put (cs := #[.slice Ao9 t174.length co9, .slice none 0 0]) ?_ 1 _ rfl; (with_reducible repeat (first | refine ZR ?_ _ | refine ZS ?_ | refine ZT ?_ _)); refine blk_put (cs := #[.slice none 0 0, .slice none 0 0]) ?_ 0 _ rfl; (with_reducible repeat (first | refine ZR ?_ _ | refine ZS ?_ | refine ZT ?_ _)); exact BK173.out) Tryd.underlying27 rfl (by kernel_rfl)) rfl ?_
   exact ⟨_, _, by first | rfl | (simp [errW_none, errW_some] <;> rfl) | (simp [*, errW_none, errW_some] <;> rfl), by (with_reducible repeat (first | apply ZY | apply ZX | apply ZZ)); exact Kd.R_mono (Kd.R_far (p := ⟨gb173, 1, none⟩) (Kd.R_far (p := ⟨gb173, 0, none⟩) (Kd.R_types HO176.out BK173.out (by decide)) (fun _ hk => hk.2) (.slice Ao9 t174.length co9)) (fun _ hk => hk.2) (.slice Ao12 t177.length co12)) (fun _ hk => trivial), by (with_reducible repeat (first | apply ZY | apply ZX | apply ZZ)); exact Kd.R_mono (Kd.R_far (p := ⟨gb173, 1, none⟩) (Kd.R_far (p := ⟨gb173, 0, none⟩) (Kd.R_types HO179.out BK173.out (by decide)) (fun _ hk => hk.2) (.slice Ao9 t174.length co9)) (fun _ hk => hk.2) (.slice Ao12 t177.length co12)) (fun _ hk => trivial), ZBB HB.out⟩
  ·rw [if_neg c5] at H
   have c5b0 : (t182 == 0) = false := beq_eq_false_iff_ne.mpr c5
   have c5b1 : (t182 != 0) = true := bne_iff_ne.mpr c5
   simp only [Option.some.injEq, Prod.mk.injEq] at H
   obtain ⟨rfl, rfl, rfl⟩ := H
   go_enter Tryd.func11, Tryd.ntmps11
   go_wp2_with (first | ((with_reducible refine gate_dst (N := 2) rfl ?_); refine box_event ?hg (N := 2) ?hd (cs := #[.slice none 0 0, .slice none 0 0]) (t := 27) ?hr ?_; (case hd => rfl); (case hg => rfl); (case hr => first | (go_simp; done) | (go_simp; rfl)); intro gb173 hg w16 hbox hb; have n0_ := ZM (ZW (ZBB HB.out) hb); have n1_ := ZM (hbox); have n2_ := ZM ((by rw [hg]; exact (ZV (ZBB HB.out)) : w.heap.size ≤ gb173)); have n3_ := ZM ((by rw [hg]; exact (ZV (ZBB HB.out)) : w.heap.size ≤ gb173)); clear HB; have HB := n0_; have BK173 := n1_; have GW173 := n2_; have GE173 := n3_; clear n0_ n1_ n2_ n3_; clear hb hbox hg) | ((with_reducible refine gate_callee (f := 9) rfl ?_); refine goesL_ (some 9) rfl rfl Tryd.func9 (by kernel_rfl) rfl #[.slice A0 l0.length c0] rfl ZH ?_; (with_reducible refine (gcode_Take.calls _ _ l0 t174 t177 t180 _ ?side1 ?side2 A2.out).mono ?_); (case side1 => repeat (first | exact (Kd.C_below HR0.out HB.out) | (with_reducible refine Kd.C_alloc ?_ _) | (with_reducible refine Kd.C_drewN ?_ _) | (with_reducible refine Kd.C_drew ?_))); (case side2 => exact HC0.out); rintro e w17 ⟨v175, v178, rfl, ho0, ho1, hb⟩; refine ⟨_, rfl, ?_⟩; have n0_ := ZM (Kd.R_lower ho0 (ZV (ZBB HB.out))); have n1_ := ZM (Kd.R_lower ho1 (ZV (ZBB HB.out))); have n2_ := ZM (blk_below (g := gb173) (o := .cells #[.slice none 0 0, .slice none 0 0] 27 (0, 0)) (ZBK BK173.out) hb); have n3_ := ZM (ZW (ZBB HB.out) hb); clear BK173; clear HB; have HO176 := n0_; have HO179 := n1_; have BK173 := n2_; have HB := n3_; clear n0_ n1_ n2_ n3_; (try clear hb); (try clear hb2); (try clear hk); (try clear hi); (try clear ho0); (try clear ho1)) | ((with_reducible refine gate_dst (N := 4) rfl ?_); refine box_event ?hg (N := 4) ?hd (cs := #[.slice none 0 0, .slice none 0 0]) (t := 27) ?hr ?_; (case hd => rfl); (case hg => rfl); (case hr => first | (go_simp; done) | (go_simp; rfl)); intro gb181 hg w18 hbox hb; have n0_ := ZM (Kd.R_below (ZRK HO176.out) hb); have n1_ := ZM (Kd.R_below (ZRK HO179.out) hb); have n2_ := ZM (blk_below (g := gb173) (o := .cells #[.slice none 0 0, .slice none 0 0] 27 (0, 0)) (ZBK BK173.out) hb); have n3_ := ZM (ZW (ZBB HB.out) hb); have n4_ := ZM (hbox); have n5_ := ZM ((by rw [hg]; exact (ZV (ZBB HB.out)) : w.heap.size ≤ gb181)); have n6_ := ZM ((by rw [hg]; exact (ZV (ZBB HB.out)) : w.heap.size ≤ gb181)); have n7_ := ZM ((by rw [hg]; exact Nat.ne_of_lt (blk_lt (g := gb173) (o := .cells #[.slice none 0 0, .slice none 0 0] 27 (0, 0)) (ZBK BK173.out)) : gb173 ≠ gb181)); have n8_ := ZM ((by rw [hg]; exact Nat.ne_of_gt (blk_lt (g := gb173) (o := .cells #[.slice none 0 0, .slice none 0 0] 27 (0, 0)) (ZBK BK173.out)) : gb181 ≠ gb173)); clear HO176; clear HO179; clear BK173; clear HB; have HO176 := n0_; have HO179 := n1_; have BK173 := n2_; have HB := n3_; have BK181 := n4_; have GW181 := n5_; have GE181 := n6_; have NB173_181 := n7_; have NB181_173 := n8_; clear n0_ n1_ n2_ n3_ n4_ n5_ n6_ n7_ n8_; clear hb hbox hg; obtain ⟨Ao19, co19, eo19⟩ := Kd.R_slice HO176.out; subst eo19; have hnb20 := NB181_173.out; have hnc20 := NB173_181.out; have hcz21_0 : w18.cell? ⟨gb181, 0, none⟩ = some (.slice none 0 0) := (ZG BK181.out 0).trans rfl; have hcz21_1 : w18.cell? ⟨gb181, 1, none⟩ = some (.slice none 0 0) := (ZG BK181.out 1).trans rfl; have hfz21_0 := ZF BK181.out 0; have hfz21_1 := ZF BK181.out 1; obtain ⟨Ao22, co22, eo22⟩ := Kd.R_slice HO179.out; subst eo22) | ((with_reducible refine gate_callee (f := 22) rfl ?_); refine goesL_ (some 17) rfl rfl Tryd.func22 (by kernel_rfl) rfl #[.agg #[.slice Ao19 t174.length co19, .slice Ao22 t177.length co22]] rfl ZH ?_; (with_reducible refine (valid_Graph.calls k _ _ t174 _ _ t177 t182 _ ?side1 ?side2 ?side3 ?side4 A4.out).mono ?_); (case side1 => refine (Kd.R_reads' (e := 40) (base := w.heap.size) (ok := fun k_ => True) (n := t174.length) (c := co19) ?_).2.2; exact (by (with_reducible repeat (first | apply ZY | apply ZX | apply ZZ)); exact (Kd.R_mono (Kd.R_far (p := ⟨gb181, 1, none⟩) (Kd.R_far (p := ⟨gb181, 0, none⟩) (Kd.R_types HO176.out BK181.out (by decide)) (fun _ hk => hk.2) (.slice Ao19 t174.length co19)) (fun _ hk => hk.2) (.slice Ao22 t177.length co22)) (fun _ h_ => h_.1)))); (case side2 => exact (Kd.R_reads' HO176.out).2.1); (case side3 => refine (Kd.R_reads' (e := 42) (base := w.heap.size) (ok := fun k_ => True) (n := t177.length) (c := co22) ?_).2.2; exact (by (with_reducible repeat (first | apply ZY | apply ZX | apply ZZ)); exact (Kd.R_mono (Kd.R_far (p := ⟨gb181, 1, none⟩) (Kd.R_far (p := ⟨gb181, 0, none⟩) (Kd.R_types HO179.out BK181.out (by decide)) (fun _ hk => hk.2) (.slice Ao19 t174.length co19)) (fun _ hk => hk.2) (.slice Ao22 t177.length co22)) (fun _ h_ => h_.1)))); (case side4 => exact (Kd.R_reads' HO179.out).2.1); rintro e w23 ⟨rfl, hb⟩; refine ⟨_, rfl, ?_⟩; have n0_ := ZM (Kd.R_below (by (with_reducible repeat (first | apply ZY | apply ZX | apply ZZ)); exact (Kd.R_mono (Kd.R_far (p := ⟨gb181, 1, none⟩) (Kd.R_far (p := ⟨gb181, 0, none⟩) (Kd.R_types HO176.out BK181.out (by decide)) (fun _ hk => hk.2) (.slice Ao19 t174.length co19)) (fun _ hk => hk.2) (.slice Ao22 t177.length co22)) (fun _ h_ => h_.1))) hb); have n1_ := ZM (Kd.R_below (by (with_reducible repeat (first | apply ZY | apply ZX | apply ZZ)); exact (Kd.R_mono (Kd.R_far (p := ⟨gb181, 1, none⟩) (Kd.R_far (p := ⟨gb181, 0, none⟩) (Kd.R_types HO179.out BK181.out (by decide)) (fun _ hk => hk.2) (.slice Ao19 t174.length co19)) (fun _ hk => hk.2) (.slice Ao22 t177.length co22)) (fun _ h_ => h_.1))) hb); have n2_ := ZM (blk_below (g := gb173) (o := .cells #[.slice none 0 0, .slice none 0 0] 27 (0, 0)) (by (with_reducible repeat (first | refine ZR ?_ _ | refine ZS ?_ | refine ZT ?_ _)); refine blk_far ?_ NB173_181.out _; (with_reducible repeat (first | refine ZR ?_ _ | refine ZS ?_ | refine ZT ?_ _)); refine blk_far ?_ NB173_181.out _; (with_reducible repeat (first | refine ZR ?_ _ | refine ZS ?_ | refine ZT ?_ _)); exact BK173.out) hb); have n3_ := ZM (blk_below (g := gb181) (o := .cells #[.slice Ao19 t174.length co19, .slice Ao22 t177.length co22] 27 (0, 0)) (by (with_reducible repeat (first | refine ZR ?_ _ | refine ZS ?_ | refine ZT ?_ _)); refine blk_put (cs := #[.slice Ao19 t174.length co19, .slice none 0 0]) ?_ 1 _ rfl; (with_reducible repeat (first | refine ZR ?_ _ | refine ZS ?_ | refine ZT ?_ _)); refine blk_put (cs := #[.slice none 0 0, .slice none 0 0]) ?_ 0 _ rfl; (with_reducible repeat (first | refine ZR ?_ _ | refine ZS ?_ | refine ZT ?_ _)); exact BK181.out) hb); have n4_ := ZM (ZW (ZBB HB.out) hb); clear HO176; clear HO179; clear BK173; clear BK181; clear HB; have HO176 := n0_; have HO179 := n1_; have BK173 := n2_; have BK181 := n3_; have HB := n4_; clear n0_ n1_ n2_ n3_ n4_; (try clear hb); (try clear hb2); (try clear hk); (try clear hi); have hcz24_0 : w23.cell? ⟨gb173, 0, none⟩ = some (.slice none 0 0) := (ZG BK173.out 0).trans rfl; have hcz24_1 : w23.cell? ⟨gb173, 1, none⟩ = some (.slice none 0 0) := (ZG BK173.out 1).trans rfl; have hfz24_0 := ZF BK173.out 0; have hfz24_1 := ZF BK173.out 1))
   refine bodyPost_ret (results_ct rfl _ _ gb173 27 #[.slice none 0 0, .slice none 0 0] (0, 0) _ rfl (by (with_reducible repeat (first | refine ZR ?_ _ | refine ZS ?_ | refine ZT ?_ _)); refine blk_put (cs := #[.slice none 0 0, .slice none 0 0]) ?_ 1 _ rfl; (with_reducible repeat (first | refine ZR ?_ _ | refine ZS ?_ | refine ZT ?_ _)); refine blk_put (cs := #[.slice none 0 0, .slice none 0 0]) ?_ 0 _ rfl; (with_reducible repeat (first | refine ZR ?_ _ | refine ZS ?_ | refine ZT ?_ _)); exact BK173.out) Tryd.underlying27 rfl (by kernel_rfl)) rfl ?_
   exact ⟨_, _, by first | rfl | (simp [errW_none, errW_some] <;> rfl) | (simp [*, errW_none, errW_some] <;> rfl), by first | exact Kd.R_nil _ _ _ _ _ | exact Kd.N_nil _ _ _ _ _ | exact Kd.V_nil _ _ _ _ _ | exact Kd.Q_nil _ _ _ _ _ | exact Kd.S_nil _ _ _ _ _, by first | exact Kd.R_nil _ _ _ _ _ | exact Kd.N_nil _ _ _ _ _ | exact Kd.V_nil _ _ _ _ _ | exact Kd.Q_nil _ _ _ _ _ | exact Kd.S_nil _ _ _ _ _, ZBB HB.out⟩
 ·rw [if_neg c3] at H
  have c3b0 : (t180 == 0) = false := beq_eq_false_iff_ne.mpr c3
  have c3b1 : (t180 != 0) = true := bne_iff_ne.mpr c3
  simp only [Option.some.injEq, Prod.mk.injEq] at H
  obtain ⟨rfl, rfl, rfl⟩ := H
  go_enter Tryd.func11, Tryd.ntmps11
  go_wp2_with (first | ((with_reducible refine gate_dst (N := 2) rfl ?_); refine box_event ?hg (N := 2) ?hd (cs := #[.slice none 0 0, .slice none 0 0]) (t := 27) ?hr ?_; (case hd => rfl); (case hg => rfl); (case hr => first | (go_simp; done) | (go_simp; rfl)); intro gb173 hg w25 hbox hb; have n0_ := ZM (ZW (ZBB HB.out) hb); have n1_ := ZM (hbox); have n2_ := ZM ((by rw [hg]; exact (ZV (ZBB HB.out)) : w.heap.size ≤ gb173)); have n3_ := ZM ((by rw [hg]; exact (ZV (ZBB HB.out)) : w.heap.size ≤ gb173)); clear HB; have HB := n0_; have BK173 := n1_; have GW173 := n2_; have GE173 := n3_; clear n0_ n1_ n2_ n3_; clear hb hbox hg) | ((with_reducible refine gate_callee (f := 9) rfl ?_); refine goesL_ (some 9) rfl rfl Tryd.func9 (by kernel_rfl) rfl #[.slice A0 l0.length c0] rfl ZH ?_; (with_reducible refine (gcode_Take.calls _ _ l0 t174 t177 t180 _ ?side1 ?side2 A2.out).mono ?_); (case side1 => repeat (first | exact (Kd.C_below HR0.out HB.out) | (with_reducible refine Kd.C_alloc ?_ _) | (with_reducible refine Kd.C_drewN ?_ _) | (with_reducible refine Kd.C_drew ?_))); (case side2 => exact HC0.out); rintro e w26 ⟨v175, v178, rfl, ho0, ho1, hb⟩; refine ⟨_, rfl, ?_⟩; have n0_ := ZM (Kd.R_lower ho0 (ZV (ZBB HB.out))); have n1_ := ZM (Kd.R_lower ho1 (ZV (ZBB HB.out))); have n2_ := ZM (blk_below (g := gb173) (o := .cells #[.slice none 0 0, .slice none 0 0] 27 (0, 0)) (ZBK BK173.out) hb); have n3_ := ZM (ZW (ZBB HB.out) hb); clear BK173; clear HB; have HO176 := n0_; have HO179 := n1_; have BK173 := n2_; have HB := n3_; clear n0_ n1_ n2_ n3_; (try clear hb); (try clear hb2); (try clear hk); (try clear hi); (try clear ho0); (try clear ho1)) | ((with_reducible refine gate_dst (N := 4) rfl ?_); refine box_event ?hg (N := 4) ?hd (cs := #[.slice none 0 0, .slice none 0 0]) (t := 27) ?hr ?_; (case hd => rfl); (case hg => rfl); (case hr => first | (go_simp; done) | (go_simp; rfl)); intro gb181 hg w27 hbox hb; have n0_ := ZM (Kd.R_below (ZRK HO176.out) hb); have n1_ := ZM (Kd.R_below (ZRK HO179.out) hb); have n2_ := ZM (blk_below (g := gb173) (o := .cells #[.slice none 0 0, .slice none 0 0] 27 (0, 0)) (ZBK BK173.out) hb); have n3_ := ZM (ZW (ZBB HB.out) hb); have n4_ := ZM (hbox); have n5_ := ZM ((by rw [hg]; exact (ZV (ZBB HB.out)) : w.heap.size ≤ gb181)); have n6_ := ZM ((by rw [hg]; exact (ZV (ZBB HB.out)) : w.heap.size ≤ gb181)); have n7_ := ZM ((by rw [hg]; exact Nat.ne_of_lt (blk_lt (g := gb173) (o := .cells #[.slice none 0 0, .slice none 0 0] 27 (0, 0)) (ZBK BK173.out)) : gb173 ≠ gb181)); have n8_ := ZM ((by rw [hg]; exact Nat.ne_of_gt (blk_lt (g := gb173) (o := .cells #[.slice none 0 0, .slice none 0 0] 27 (0, 0)) (ZBK BK173.out)) : gb181 ≠ gb173)); clear HO176; clear HO179; clear BK173; clear HB; have HO176 := n0_; have HO179 := n1_; have BK173 := n2_; have HB := n3_; have BK181 := n4_; have GW181 := n5_; have GE181 := n6_; have NB173_181 := n7_; have NB181_173 := n8_; clear n0_ n1_ n2_ n3_ n4_ n5_ n6_ n7_ n8_; clear hb hbox hg; obtain ⟨Ao28, co28, eo28⟩ := Kd.R_slice HO176.out; subst eo28; have hnb29 := NB181_173.out; have hnc29 := NB173_181.out; have hcz30_0 : w27.cell? ⟨gb181, 0, none⟩ = some (.slice none 0 0) := (ZG BK181.out 0).trans rfl; have hcz30_1 : w27.cell? ⟨gb181, 1, none⟩ = some (.slice none 0 0) := (ZG BK181.out 1).trans rfl; have hfz30_0 := ZF BK181.out 0; have hfz30_1 := ZF BK181.out 1; obtain ⟨Ao31, co31, eo31⟩ := Kd.R_slice HO179.out; subst eo31; have hcz32_0 : w27.cell? ⟨gb173, 0, none⟩ = some (.slice none 0 0) := (ZG BK173.out 0).trans rfl; have hcz32_1 : w27.cell? ⟨gb173, 1, none⟩ = some (.slice none 0 0) := (ZG BK173.out 1).trans rfl; have hfz32_0 := ZF BK173.out 0; have hfz32_1 := ZF BK173.out 1))
  refine bodyPost_ret (results_ct rfl _ _ gb173 27 #[.slice none 0 0, .slice none 0 0] (0, 0) _ rfl (by (with_reducible repeat (first | refine ZR ?_ _ | refine ZS ?_ | refine ZT ?_ _)); refine blk_put (cs := #[.slice none 0 0, .slice none 0 0]) ?_ 1 _ rfl; (with_reducible repeat (first | refine ZR ?_ _ | refine ZS ?_ | refine ZT ?_ _)); refine blk_put (cs := #[.slice none 0 0, .slice none 0 0]) ?_ 0 _ rfl; (with_reducible repeat (first | refine ZR ?_ _ | refine ZS ?_ | refine ZT ?_ _)); refine blk_far ?_ NB173_181.out _; (with_reducible repeat (first | refine ZR ?_ _ | refine ZS ?_ | refine ZT ?_ _)); refine blk_far ?_ NB173_181.out _; (with_reducible repeat (first | refine ZR ?_ _ | refine ZS ?_ | refine ZT ?_ _)); exact BK173.out) Tryd.underlying27 rfl (by kernel_rfl)) rfl ?_
  exact ⟨_, _, by first | rfl | (simp [errW_none, errW_some] <;> rfl) | (simp [*, errW_none, errW_some] <;> rfl), by first | exact Kd.R_nil _ _ _ _ _ | exact Kd.N_nil _ _ _ _ _ | exact Kd.V_nil _ _ _ _ _ | exact Kd.Q_nil _ _ _ _ _ | exact Kd.S_nil _ _ _ _ _, by first | exact Kd.R_nil _ _ _ _ _ | exact Kd.N_nil _ _ _ _ _ | exact Kd.V_nil _ _ _ _ _ | exact Kd.Q_nil _ _ _ _ _ | exact Kd.S_nil _ _ _ _ _, ZBB HB.out⟩

/-! ### meanderref08_SameGraph: function 13 -/
mutual
def meanderref08_SameGraph.j0 : Nat → Bool → List (S40) → List (S42) → List (S40) → List (S42) → Option (Bool)
 | 0, _, _, _, _, _ => none
 | k + 1, x22, x184000, x184001, x185000, x185001 => if x22 = true then (some false) else (meanderref08_SameGraph.l0 k 0 x184000 x184001 x185000 x185001)
def meanderref08_SameGraph.l0 : Nat → Int → List (S40) → List (S42) → List (S40) → List (S42) → Option (Bool)
 | 0, _, _, _, _, _ => none
 | k + 1, x5, x184000, x184001, x185000, x185001 => if x5 < (x184000.length : Int) then (if 0 ≤ x5 then (if x5 < (x185000.length : Int) then (if (!(((rd_T40 x184000 x5).f0) == ((rd_T40 x185000 x5).f0)) || (!(((rd_T40 x184000 x5).f1) == ((rd_T40 x185000 x5).f1)) || (!(((rd_T40 x184000 x5).f2) == ((rd_T40 x185000 x5).f2)) || (!(((rd_T40 x184000 x5).f3) == ((rd_T40 x185000 x5).f3)))))) = true then (some false) else (meanderref08_SameGraph.l0 k (wrap64 (x5 + 1)) x184000 x184001 x185000 x185001)) else (none)) else (none)) else (meanderref08_SameGraph.l1 k 0 x184000 x184001 x185000 x185001)
def meanderref08_SameGraph.l1 : Nat → Int → List (S40) → List (S42) → List (S40) → List (S42) → Option (Bool)
 | 0, _, _, _, _, _ => none
 | k + 1, x6, x184000, x184001, x185000, x185001 => if x6 < (x184001.length : Int) then (if 0 ≤ x6 then (if x6 < (x185001.length : Int) then (if (!(((rd_T42 x184001 x6).f0) == ((rd_T42 x185001 x6).f0)) || (!(((rd_T42 x184001 x6).f1) == ((rd_T42 x185001 x6).f1)) || (!(((rd_T42 x184001 x6).f2) == ((rd_T42 x185001 x6).f2))))) = true then (some false) else (meanderref08_SameGraph.l1 k (wrap64 (x6 + 1)) x184000 x184001 x185000 x185001)) else (none)) else (none)) else (some true)
end
def meanderref08_SameGraph.f (k : Nat) (l0_0 : List (S40)) (l0_1 : List (S42)) (l1_0 : List (S40)) (l1_1 : List (S42)) : Option (Bool) := if (l0_0.length : Int) = (l1_0.length : Int) then (meanderref08_SameGraph.j0 k ((l0_1.length : Int) != (l1_1.length : Int)) l0_0 l0_1 l1_0 l1_1) else (meanderref08_SameGraph.j0 k true l0_0 l0_1 l1_0 l1_1)
theorem meanderref08_SameGraph.mono_l : ∀ k, (∀ y0 y1 y2 y3 y4, LeO (meanderref08_SameGraph.j0 k y0 y1 y2 y3 y4) (meanderref08_SameGraph.j0 (k + 1) y0 y1 y2 y3 y4)) ∧ (∀ y0 y1 y2 y3 y4, LeO (meanderref08_SameGraph.l0 k y0 y1 y2 y3 y4) (meanderref08_SameGraph.l0 (k + 1) y0 y1 y2 y3 y4)) ∧ (∀ y0 y1 y2 y3 y4, LeO (meanderref08_SameGraph.l1 k y0 y1 y2 y3 y4) (meanderref08_SameGraph.l1 (k + 1) y0 y1 y2 y3 y4))
 | 0 => ⟨fun _ _ _ _ _ r h => by simp [meanderref08_SameGraph.j0] at h, fun _ _ _ _ _ r h => by simp [meanderref08_SameGraph.l0] at h, fun _ _ _ _ _ r h => by simp [meanderref08_SameGraph.l1] at h⟩
 | k + 1 => by
  obtain ⟨ih0, ih1, ih2⟩ := meanderref08_SameGraph.mono_l k
  refine ⟨?_, ?_, ?_⟩
  ·intro y0 y1 y2 y3 y4
   unfold meanderref08_SameGraph.j0
   repeat' first
   | (with_reducible exact ih0 _ _ _ _ _)
   | (with_reducible exact ih1 _ _ _ _ _)
   | (with_reducible exact ih2 _ _ _ _ _)
   | (with_reducible exact LeO.refl _)
   | (with_reducible exact LeO.none _)
   | (with_reducible refine LeO.ite ?_ ?_)
   | (with_reducible refine LeO.bind ?_ (fun _ => ?_))
   | exact ih0 _ _ _ _ _
   | exact ih1 _ _ _ _ _
   | exact ih2 _ _ _ _ _
   | exact LeO.none _
   | refine LeO.ite ?_ ?_
   | refine LeO.bind ?_ (fun _ => ?_)
  ·intro y0 y1 y2 y3 y4
   unfold meanderref08_SameGraph.l0
   repeat' first
   | (with_reducible exact ih0 _ _ _ _ _)
   | (with_reducible exact ih1 _ _ _ _ _)
   | (with_reducible exact ih2 _ _ _ _ _)
   | (with_reducible exact LeO.refl _)
   | (with_reducible exact LeO.none _)
   | (with_reducible refine LeO.ite ?_ ?_)
   | (with_reducible refine LeO.bind ?_ (fun _ => ?_))
   | exact ih0 _ _ _ _ _
   | exact ih1 _ _ _ _ _
   | exact ih2 _ _ _ _ _
   | exact LeO.none _
   | refine LeO.ite ?_ ?_
   | refine LeO.bind ?_ (fun _ => ?_)
  ·intro y0 y1 y2 y3 y4
   unfold meanderref08_SameGraph.l1
   repeat' first
   | (with_reducible exact ih0 _ _ _ _ _)
   | (with_reducible exact ih1 _ _ _ _ _)
   | (with_reducible exact ih2 _ _ _ _ _)
   | (with_reducible exact LeO.refl _)
   | (with_reducible exact LeO.none _)
   | (with_reducible refine LeO.ite ?_ ?_)
   | (with_reducible refine LeO.bind ?_ (fun _ => ?_))
   | exact ih0 _ _ _ _ _
   | exact ih1 _ _ _ _ _
   | exact ih2 _ _ _ _ _
   | exact LeO.none _
   | refine LeO.ite ?_ ?_
   | refine LeO.bind ?_ (fun _ => ?_)
theorem meanderref08_SameGraph.mono : ∀ a0 a1 a2 a3 k, LeO (meanderref08_SameGraph.f k a0 a1 a2 a3) (meanderref08_SameGraph.f (k + 1) a0 a1 a2 a3) := by
 intro a0 a1 a2 a3 k
 obtain ⟨ih0, ih1, ih2⟩ := meanderref08_SameGraph.mono_l k
 unfold meanderref08_SameGraph.f
 repeat' first
   | (with_reducible exact ih0 _ _ _ _ _)
   | (with_reducible exact ih1 _ _ _ _ _)
   | (with_reducible exact ih2 _ _ _ _ _)
   | (with_reducible exact LeO.refl _)
   | (with_reducible exact LeO.none _)
   | (with_reducible refine LeO.ite ?_ ?_)
   | (with_reducible refine LeO.bind ?_ (fun _ => ?_))
   | exact ih0 _ _ _ _ _
   | exact ih1 _ _ _ _ _
   | exact ih2 _ _ _ _ _
   | exact LeO.none _
   | refine LeO.ite ?_ ?_
   | refine LeO.bind ?_ (fun _ => ?_)
set_option maxHeartbeats 8000000 in
set_option maxRecDepth 100000 in
theorem meanderref08_SameGraph.calls (k : Nat) (A0_0 : Option Addr) (c0_0 : Nat) (l0_0 : List (S40)) (A0_1 : Option Addr) (c0_1 : Nat) (l0_1 : List (S42)) (A1_0 : Option Addr) (c1_0 : Nat) (l1_0 : List (S40)) (A1_1 : Option Addr) (c1_1 : Nat) (l1_1 : List (S42)) (r : Bool) (w : World) (hr0_0 : Kd.C k40 w A0_0 l0_0.length l0_0) (hc0_0 : l0_0.length ≤ c0_0) (hr0_1 : Kd.C k42 w A0_1 l0_1.length l0_1) (hc0_1 : l0_1.length ≤ c0_1) (hr1_0 : Kd.C k40 w A1_0 l1_0.length l1_0) (hc1_0 : l1_0.length ≤ c1_0) (hr1_1 : Kd.C k42 w A1_1 l1_1.length l1_1) (hc1_1 : l1_1.length ≤ c1_1) (h : meanderref08_SameGraph.f k l0_0 l0_1 l1_0 l1_1 = some r) :
  Calls Tryd.prog 13 #[.agg #[.slice A0_0 l0_0.length c0_0, .slice A0_1 l0_1.length c0_1], .agg #[.slice A1_0 l1_0.length c1_0, .slice A1_1 l1_1.length c1_1]] w fun e w' => e = .returned (.bool r) ∧ Below w.heap.size w w' := by
 have hu27 := Tryd.underlying27
 have hu40 := Tryd.underlying40
 have hu42 := Tryd.underlying42
 have HR0_0 := ZM hr0_0
 have HC0_0 := ZM hc0_0
 clear hr0_0 hc0_0
 have HR0_1 := ZM hr0_1
 have HC0_1 := ZM hc0_1
 clear hr0_1 hc0_1
 have HR1_0 := ZM hr1_0
 have HC1_0 := ZM hc1_0
 clear hr1_0 hc1_0
 have HR1_1 := ZM hr1_1
 have HC1_1 := ZM hc1_1
 clear hr1_1 hc1_1
 have HB := ZM (Below.refl w.heap.size w)
 have H : (if (l0_0.length : Int) = (l1_0.length : Int) then (meanderref08_SameGraph.j0 k ((l0_1.length : Int) != (l1_1.length : Int)) l0_0 l0_1 l1_0 l1_1) else (meanderref08_SameGraph.j0 k true l0_0 l0_1 l1_0 l1_1)) = some r := h
 clear h
 have HC3 := ZM H
 clear H
 go_enter Tryd.func13, Tryd.ntmps13
 go_upto_region 1 with (first | ((with_reducible refine gate_dst (N := 2) rfl ?_); (try (refine gate_guard (by rfl) ?_; dsimp only)); refine box_event ?hg (N := 2) ?hd (cs := #[.slice A0_0 l0_0.length c0_0, .slice A0_1 l0_1.length c0_1]) (t := 27) ?hr ?_; (case hd => rfl); (case hg => rfl); (case hr => first | (go_simp; done) | (go_simp; rfl)); intro gb183 hg w4 hbox hb; have n0_ := ZM (ZW (ZBB HB.out) hb); have n1_ := ZM (hbox); have n2_ := ZM ((by rw [hg]; exact (ZV (ZBB HB.out)) : w.heap.size ≤ gb183)); have n3_ := ZM ((by rw [hg]; exact (ZV (ZBB HB.out)) : w.heap.size ≤ gb183)); clear HB; have HB := n0_; have BK183 := n1_; have GW183 := n2_; have GE183 := n3_; clear n0_ n1_ n2_ n3_; clear hb hbox hg) | ((with_reducible refine gate_dst (N := 3) rfl ?_); (try (refine gate_guard (by rfl) ?_; dsimp only)); refine box_event ?hg (N := 3) ?hd (cs := #[.slice A1_0 l1_0.length c1_0, .slice A1_1 l1_1.length c1_1]) (t := 27) ?hr ?_; (case hd => rfl); (case hg => rfl); (case hr => first | (go_simp; done) | (go_simp; rfl)); intro gb184 hg w5 hbox hb; have n0_ := ZM (blk_below (g := gb183) (o := .cells #[.slice A0_0 l0_0.length c0_0, .slice A0_1 l0_1.length c0_1] 27 (0, 0)) (ZBK BK183.out) hb); have n1_ := ZM (ZW (ZBB HB.out) hb); have n2_ := ZM (hbox); have n3_ := ZM ((by rw [hg]; exact (ZV (ZBB HB.out)) : w.heap.size ≤ gb184)); have n4_ := ZM ((by rw [hg]; exact (ZV (ZBB HB.out)) : w.heap.size ≤ gb184)); have n5_ := ZM ((by rw [hg]; exact Nat.ne_of_lt (blk_lt (g := gb183) (o := .cells #[.slice A0_0 l0_0.length c0_0, .slice A0_1 l0_1.length c0_1] 27 (0, 0)) (ZBK BK183.out)) : gb183 ≠ gb184)); have n6_ := ZM ((by rw [hg]; exact Nat.ne_of_gt (blk_lt (g := gb183) (o := .cells #[.slice A0_0 l0_0.length c0_0, .slice A0_1 l0_1.length c0_1] 27 (0, 0)) (ZBK BK183.out)) : gb184 ≠ gb183)); clear BK183; clear HB; have BK183 := n0_; have HB := n1_; have BK184 := n2_; have GW184 := n3_; have GE184 := n4_; have NB183_184 := n5_; have NB184_183 := n6_; clear n0_ n1_ n2_ n3_ n4_ n5_ n6_; clear hb hbox hg))
 repeat (go_quiet (first | ((with_reducible refine gate_dst (N := 2) rfl ?_); (try (refine gate_guard (by rfl) ?_; dsimp only)); refine box_event ?hg (N := 2) ?hd (cs := #[.slice A0_0 l0_0.length c0_0, .slice A0_1 l0_1.length c0_1]) (t := 27) ?hr ?_; (case hd => rfl); (case hg => rfl); (case hr => first | (go_simp; done) | (go_simp; rfl)); intro gb183 hg w4 hbox hb; have n0_ := ZM (ZW (ZBB HB.out) hb); have n1_ := ZM (hbox); have n2_ := ZM ((by rw [hg]; exact (ZV (ZBB HB.out)) : w.heap.size ≤ gb183)); have n3_ := ZM ((by rw [hg]; exact (ZV (ZBB HB.out)) : w.heap.size ≤ gb183)); clear HB; have HB := n0_; have BK183 := n1_; have GW183 := n2_; have GE183 := n3_; clear n0_ n1_ n2_ n3_; clear hb hbox hg) | ((with_reducible refine gate_dst (N := 3) rfl ?_); (try (refine gate_guard (by rfl) ?_; dsimp only)); refine box_event ?hg (N := 3) ?hd (cs := #[.slice A1_0 l1_0.length c1_0, .slice A1_1 l1_1.length c1_1]) (t := 27) ?hr ?_; (case hd => rfl); (case hg => rfl); (case hr => first | (go_simp; done) | (go_simp; rfl)); intro gb184 hg w5 hbox hb; have n0_ := ZM (blk_below (g := gb183) (o := .cells #[.slice A0_0 l0_0.length c0_0, .slice A0_1 l0_1.length c0_1] 27 (0, 0)) (ZBK BK183.out) hb); have n1_ := ZM (ZW (ZBB HB.out) hb); have n2_ := ZM (hbox); have n3_ := ZM ((by rw [hg]; exact (ZV (ZBB HB.out)) : w.heap.size ≤ gb184)); have n4_ := ZM ((by rw [hg]; exact (ZV (ZBB HB.out)) : w.heap.size ≤ gb184)); have n5_ := ZM ((by rw [hg]; exact Nat.ne_of_lt (blk_lt (g := gb183) (o := .cells #[.slice A0_0 l0_0.length c0_0, .slice A0_1 l0_1.length c0_1] 27 (0, 0)) (ZBK BK183.out)) : gb183 ≠ gb184)); have n6_ := ZM ((by rw [hg]; exact Nat.ne_of_gt (blk_lt (g := gb183) (o := .cells #[.slice A0_0 l0_0.length c0_0, .slice A0_1 l0_1.length c0_1] 27 (0, 0)) (ZBK BK183.out)) : gb184 ≠ gb183)); clear BK183; clear HB; have BK183 := n0_; have HB := n1_; have BK184 := n2_; have GW184 := n3_; have GE184 := n4_; have NB183_184 := n5_; have NB184_183 := n6_; clear n0_ n1_ n2_ n3_ n4_ n5_ n6_; clear hb hbox hg)); go_upto_region 1 with (first | ((with_reducible refine gate_dst (N := 2) rfl ?_); (try (refine gate_guard (by rfl) ?_; dsimp only)); refine box_event ?hg (N := 2) ?hd (cs := #[.slice A0_0 l0_0.length c0_0, .slice A0_1 l0_1.length c0_1]) (t := 27) ?hr ?_; (case hd => rfl); (case hg => rfl); (case hr => first | (go_simp; done) | (go_simp; rfl)); intro gb183 hg w4 hbox hb; have n0_ := ZM (ZW (ZBB HB.out) hb); have n1_ := ZM (hbox); have n2_ := ZM ((by rw [hg]; exact (ZV (ZBB HB.out)) : w.heap.size ≤ gb183)); have n3_ := ZM ((by rw [hg]; exact (ZV (ZBB HB.out)) : w.heap.size ≤ gb183)); clear HB; have HB := n0_; have BK183 := n1_; have GW183 := n2_; have GE183 := n3_; clear n0_ n1_ n2_ n3_; clear hb hbox hg) | ((with_reducible refine gate_dst (N := 3) rfl ?_); (try (refine gate_guard (by rfl) ?_; dsimp only)); refine box_event ?hg (N := 3) ?hd (cs := #[.slice A1_0 l1_0.length c1_0, .slice A1_1 l1_1.length c1_1]) (t := 27) ?hr ?_; (case hd => rfl); (case hg => rfl); (case hr => first | (go_simp; done) | (go_simp; rfl)); intro gb184 hg w5 hbox hb; have n0_ := ZM (blk_below (g := gb183) (o := .cells #[.slice A0_0 l0_0.length c0_0, .slice A0_1 l0_1.length c0_1] 27 (0, 0)) (ZBK BK183.out) hb); have n1_ := ZM (ZW (ZBB HB.out) hb); have n2_ := ZM (hbox); have n3_ := ZM ((by rw [hg]; exact (ZV (ZBB HB.out)) : w.heap.size ≤ gb184)); have n4_ := ZM ((by rw [hg]; exact (ZV (ZBB HB.out)) : w.heap.size ≤ gb184)); have n5_ := ZM ((by rw [hg]; exact Nat.ne_of_lt (blk_lt (g := gb183) (o := .cells #[.slice A0_0 l0_0.length c0_0, .slice A0_1 l0_1.length c0_1] 27 (0, 0)) (ZBK BK183.out)) : gb183 ≠ gb184)); have n6_ := ZM ((by rw [hg]; exact Nat.ne_of_gt (blk_lt (g := gb183) (o := .cells #[.slice A0_0 l0_0.length c0_0, .slice A0_1 l0_1.length c0_1] 27 (0, 0)) (ZBK BK183.out)) : gb184 ≠ gb183)); clear BK183; clear HB; have BK183 := n0_; have HB := n1_; have BK184 := n2_; have GW184 := n3_; have GE184 := n4_; have NB183_184 := n5_; have NB184_183 := n6_; clear n0_ n1_ n2_ n3_ n4_ n5_ n6_; clear hb hbox hg)))
 (try simp only [Act.put, ZI, ZJ, ZK])
 go_cut [22] (fun v22 wc => ∃ (kq : Nat) (x22_2 : Bool), v22 = .bool x22_2 ∧ Aside0 (meanderref08_SameGraph.j0 kq x22_2 l0_0 l0_1 l1_0 l1_1 = some r) ∧ Aside0 (kq ≤ k) ∧ Aside0 (wc.heap[gb183]? = some (.cells #[(.slice A0_0 l0_0.length c0_0), (.slice A0_1 l0_1.length c0_1)] 27 (0, 0))) ∧ Aside0 (wc.heap[gb184]? = some (.cells #[(.slice A1_0 l1_0.length c1_0), (.slice A1_1 l1_1.length c1_1)] 27 (0, 0))) ∧ Aside0 (Below w.heap.size w wc))
 case first =>
  have H := HC3.out
  clear HC3
  by_cases c6 : (l0_0.length : Int) = (l1_0.length : Int)
  ·rw [if_pos c6] at H
   have c6b0 : ((l0_0.length : Int) == (l1_0.length : Int)) = true := beq_iff_eq.mpr c6
   have c6b1 : ((l0_0.length : Int) != (l1_0.length : Int)) = false := bne_eq_false_iff_eq.mpr c6
   have c6b2 : (l0_0.length == l1_0.length) = true := by first | simpa using c6 | (simp at c6 ⊢; omega)
   clear c6
   (first | rw [c6b0] | (simp only [i64_w, i32_w]; rw [c6b0]) | skip)
   have H' := ZM H
   clear H
   have hnb7 := NB183_184.out
   have hnc7 := NB184_183.out
   have hcz8_0 : w5.cell? ⟨gb183, 0, none⟩ = some (.slice A0_0 l0_0.length c0_0) := (ZG BK183.out 0).trans rfl
   have hcz8_1 : w5.cell? ⟨gb183, 1, none⟩ = some (.slice A0_1 l0_1.length c0_1) := (ZG BK183.out 1).trans rfl
   have hfz8_0 := ZF BK183.out 0
   have hfz8_1 := ZF BK183.out 1
   have hcz9_0 : w5.cell? ⟨gb184, 0, none⟩ = some (.slice A1_0 l1_0.length c1_0) := (ZG BK184.out 0).trans rfl
   have hcz9_1 : w5.cell? ⟨gb184, 1, none⟩ = some (.slice A1_1 l1_1.length c1_1) := (ZG BK184.out 1).trans rfl
   have hfz9_0 := ZF BK184.out 0
   have hfz9_1 := ZF BK184.out 1
   go_wp2
   repeat (go_quiet (fail); try go_wp2)
   go_meet
   case rel => exact ⟨_, (((l0_1.length : Int) != (l1_1.length : Int))), (by first | rfl | (simp; done) | (simp [*]; done)), H', ⟨by first | omega | exact Nat.le_refl _⟩, ⟨ZBK BK183.out⟩, ⟨ZBK BK184.out⟩, ⟨ZBB HB.out⟩⟩
  ·rw [if_neg c6] at H
   have c6b0 : ((l0_0.length : Int) == (l1_0.length : Int)) = false := beq_eq_false_iff_ne.mpr c6
   have c6b1 : ((l0_0.length : Int) != (l1_0.length : Int)) = true := bne_iff_ne.mpr c6
   have c6b2 : (l0_0.length == l1_0.length) = false := by first | simpa using c6 | (simp at c6 ⊢; omega)
   (first | rw [c6b0] | (simp only [i64_w, i32_w]; rw [c6b0]) | skip)
   have H' := ZM H
   clear H
   have hnb10 := NB183_184.out
   have hnc10 := NB184_183.out
   have hcz11_0 : w5.cell? ⟨gb183, 0, none⟩ = some (.slice A0_0 l0_0.length c0_0) := (ZG BK183.out 0).trans rfl
   have hcz11_1 : w5.cell? ⟨gb183, 1, none⟩ = some (.slice A0_1 l0_1.length c0_1) := (ZG BK183.out 1).trans rfl
   have hfz11_0 := ZF BK183.out 0
   have hfz11_1 := ZF BK183.out 1
   have hcz12_0 : w5.cell? ⟨gb184, 0, none⟩ = some (.slice A1_0 l1_0.length c1_0) := (ZG BK184.out 0).trans rfl
   have hcz12_1 : w5.cell? ⟨gb184, 1, none⟩ = some (.slice A1_1 l1_1.length c1_1) := (ZG BK184.out 1).trans rfl
   have hfz12_0 := ZF BK184.out 0
   have hfz12_1 := ZF BK184.out 1
   go_wp2
   repeat (go_quiet (fail); try go_wp2)
   go_meet
   case rel => exact ⟨_, (true), (by first | rfl | (simp; done) | (simp [*]; done)), H', ⟨by first | omega | exact Nat.le_refl _⟩, ⟨ZBK BK183.out⟩, ⟨ZBK BK184.out⟩, ⟨ZBB HB.out⟩⟩
 case rest =>
  clear HC3
  try clear c6
  try clear c6b0
  try clear c6b1
  try clear c6b2
  try clear hcz11_0
  try clear hcz11_1
  try clear hcz12_0
  try clear hcz12_1
  try clear hcz8_0
  try clear hcz8_1
  try clear hcz9_0
  try clear hcz9_1
  try clear hfz11_0
  try clear hfz11_1
  try clear hfz12_0
  try clear hfz12_1
  try clear hfz8_0
  try clear hfz8_1
  try clear hfz9_0
  try clear hfz9_1
  obtain ⟨kq, x22_2, rfl, HA, HJ2, BK183, BK184, HB⟩ := hcut
  cases kq with
  | zero => exact absurd HA.out (by simp [meanderref08_SameGraph.j0])
  | succ kj2 =>
   have H := HA.out
   clear HA
   simp only [meanderref08_SameGraph.j0] at H
   by_cases c13 : x22_2 = true
   ·subst c13
    have H1 : (some false) = some r := by rw [if_pos rfl] at H; exact H
    clear H
    have H := H1
    clear H1
    obtain rfl := Option.some.inj H
    go_wp2
    repeat (go_quiet (fail); try go_wp2)
    go_ret
    exact ⟨by first | rfl | (simp [errW_none, errW_some] <;> rfl) | (simp [*, errW_none, errW_some] <;> rfl), ZBB HB.out⟩
   ·replace c13 := Bool.eq_false_iff.mpr c13
    subst c13
    have H1 : (meanderref08_SameGraph.l0 kj2 0 l0_0 l0_1 l1_0 l1_1) = some r := by rw [if_neg (show ¬ (false = true) by decide)] at H; exact H
    clear H
    have H := H1
    clear H1
    have H' := ZM H
    clear H
    go_wp2
    repeat (go_quiet (fail); try go_wp2)
    go_loopg [5] kj2 (fun kq v5 w' => ∃ (x5_2 : Int), v5 = .int .i64 x5_2 ∧ Aside0 (meanderref08_SameGraph.l0 kq x5_2 l0_0 l0_1 l1_0 l1_1 = some r) ∧ Aside0 (kq ≤ kj2) ∧ Aside0 (w'.heap[gb183]? = some (.cells #[(.slice A0_0 l0_0.length c0_0), (.slice A0_1 l0_1.length c0_1)] 27 (0, 0))) ∧ Aside0 (w'.heap[gb184]? = some (.cells #[(.slice A1_0 l1_0.length c1_0), (.slice A1_1 l1_1.length c1_1)] 27 (0, 0))) ∧ Aside0 (Below w.heap.size w w'))
    case atStart => exact ⟨(0), (by first | rfl | (simp; done) | (simp [*]; done)), H', ⟨Nat.le_refl _⟩, ⟨ZBK BK183.out⟩, ⟨ZBK BK184.out⟩, ⟨ZBB HB.out⟩⟩
    case round =>
     clear H'
     try clear c6
     try clear c6b0
     try clear c6b1
     try clear c6b2
     try clear c13
     try clear hcz11_0
     try clear hcz11_1
     try clear hcz12_0
     try clear hcz12_1
     try clear hcz8_0
     try clear hcz8_1
     try clear hcz9_0
     try clear hcz9_1
     try clear hfz11_0
     try clear hfz11_1
     try clear hfz12_0
     try clear hfz12_1
     try clear hfz8_0
     try clear hfz8_1
     try clear hfz9_0
     try clear hfz9_1
     obtain ⟨x5_2, rfl, HA, HK2, BK183, BK184, HB⟩ := hrel
     cases gk with
     | zero => exact absurd HA.out (by simp [meanderref08_SameGraph.l0])
     | succ k2 =>
      have H := HA.out
      clear HA
      simp only [meanderref08_SameGraph.l0] at H
      by_cases c14 : x5_2 < (l0_0.length : Int)
      ·rw [if_pos c14] at H
       have c14b0 : decide (x5_2 < (l0_0.length : Int)) = true := decide_eq_true c14
       clear c14
       by_cases c15 : 0 ≤ x5_2
       case neg =>
        rw [if_neg c15] at H
        exact absurd H (by simp)
       rw [if_pos c15] at H
       have c15b0 : decide (0 ≤ x5_2) = true := decide_eq_true c15
       clear c15
       by_cases c16 : x5_2 < (l1_0.length : Int)
       case neg =>
        rw [if_neg c16] at H
        exact absurd H (by simp)
       rw [if_pos c16] at H
       have c16b0 : decide (x5_2 < (l1_0.length : Int)) = true := decide_eq_true c16
       clear c16
       by_cases c17 : (!(((rd_T40 l0_0 x5_2).f0) == ((rd_T40 l1_0 x5_2).f0)) || (!(((rd_T40 l0_0 x5_2).f1) == ((rd_T40 l1_0 x5_2).f1)) || (!(((rd_T40 l0_0 x5_2).f2) == ((rd_T40 l1_0 x5_2).f2)) || (!(((rd_T40 l0_0 x5_2).f3) == ((rd_T40 l1_0 x5_2).f3)))))) = true
       ·rw [if_pos c17] at H
        have c17b0 : (!(((rd_T40 l0_0 x5_2).f0) == ((rd_T40 l1_0 x5_2).f0)) || (!(((rd_T40 l0_0 x5_2).f1) == ((rd_T40 l1_0 x5_2).f1)) || (!(((rd_T40 l0_0 x5_2).f2) == ((rd_T40 l1_0 x5_2).f2)) || (!(((rd_T40 l0_0 x5_2).f3) == ((rd_T40 l1_0 x5_2).f3)))))) = true := c17
        clear c17
        obtain rfl := Option.some.inj H
        have hnb18 := NB183_184.out
        have hnc18 := NB184_183.out
        have hcz19_0 : wr.cell? ⟨gb183, 0, none⟩ = some (.slice A0_0 l0_0.length c0_0) := (ZG BK183.out 0).trans rfl
        have hcz19_1 : wr.cell? ⟨gb183, 1, none⟩ = some (.slice A0_1 l0_1.length c0_1) := (ZG BK183.out 1).trans rfl
        have hfz19_0 := ZF BK183.out 0
        have hfz19_1 := ZF BK183.out 1
        have p185 : 0 ≤ (x5_2 : Int) := ZOD
        have q185 : x5_2 < (l0_0.length : Int) := ZOD
        obtain ⟨ad185, e185, hx185_0, hx185_1, hx185_2, hx185_3⟩ := at_T40 HR0_0.out x5_2 p185 q185
        cases e185
        replace hx185_0 := (HB.out.cell (ZC w _ hx185_0)).trans hx185_0
        replace hx185_1 := (HB.out.cell (ZC w _ hx185_1)).trans hx185_1
        replace hx185_2 := (HB.out.cell (ZC w _ hx185_2)).trans hx185_2
        replace hx185_3 := (HB.out.cell (ZC w _ hx185_3)).trans hx185_3
        replace p185 := eq_true p185
        replace q185 := eq_true q185
        have hcz20_0 : wr.cell? ⟨gb184, 0, none⟩ = some (.slice A1_0 l1_0.length c1_0) := (ZG BK184.out 0).trans rfl
        have hcz20_1 : wr.cell? ⟨gb184, 1, none⟩ = some (.slice A1_1 l1_1.length c1_1) := (ZG BK184.out 1).trans rfl
        have hfz20_0 := ZF BK184.out 0
        have hfz20_1 := ZF BK184.out 1
        have p186 : 0 ≤ (x5_2 : Int) := ZOD
        have q186 : x5_2 < (l1_0.length : Int) := ZOD
        obtain ⟨ad186, e186, hx186_0, hx186_1, hx186_2, hx186_3⟩ := at_T40 HR1_0.out x5_2 p186 q186
        cases e186
        replace hx186_0 := (HB.out.cell (ZC w _ hx186_0)).trans hx186_0
        replace hx186_1 := (HB.out.cell (ZC w _ hx186_1)).trans hx186_1
        replace hx186_2 := (HB.out.cell (ZC w _ hx186_2)).trans hx186_2
        replace hx186_3 := (HB.out.cell (ZC w _ hx186_3)).trans hx186_3
        replace p186 := eq_true p186
        replace q186 := eq_true q186
        go_wp2
        repeat (go_quiet (fail); try go_wp2)
        go_ret
        exact ⟨by first | rfl | (simp [errW_none, errW_some] <;> rfl) | (simp [*, errW_none, errW_some] <;> rfl), ZBB HB.out⟩
       ·rw [if_neg c17] at H
        have c17b0 : (!(((rd_T40 l0_0 x5_2).f0) == ((rd_T40 l1_0 x5_2).f0)) || (!(((rd_T40 l0_0 x5_2).f1) == ((rd_T40 l1_0 x5_2).f1)) || (!(((rd_T40 l0_0 x5_2).f2) == ((rd_T40 l1_0 x5_2).f2)) || (!(((rd_T40 l0_0 x5_2).f3) == ((rd_T40 l1_0 x5_2).f3)))))) = false := by simpa using c17
        clear c17
        have H' := ZM H
        clear H
        have hnb21 := NB183_184.out
        have hnc21 := NB184_183.out
        have hcz22_0 : wr.cell? ⟨gb183, 0, none⟩ = some (.slice A0_0 l0_0.length c0_0) := (ZG BK183.out 0).trans rfl
        have hcz22_1 : wr.cell? ⟨gb183, 1, none⟩ = some (.slice A0_1 l0_1.length c0_1) := (ZG BK183.out 1).trans rfl
        have hfz22_0 := ZF BK183.out 0
        have hfz22_1 := ZF BK183.out 1
        have p185 : 0 ≤ (x5_2 : Int) := ZOD
        have q185 : x5_2 < (l0_0.length : Int) := ZOD
        obtain ⟨ad185, e185, hx185_0, hx185_1, hx185_2, hx185_3⟩ := at_T40 HR0_0.out x5_2 p185 q185
        cases e185
        replace hx185_0 := (HB.out.cell (ZC w _ hx185_0)).trans hx185_0
        replace hx185_1 := (HB.out.cell (ZC w _ hx185_1)).trans hx185_1
        replace hx185_2 := (HB.out.cell (ZC w _ hx185_2)).trans hx185_2
        replace hx185_3 := (HB.out.cell (ZC w _ hx185_3)).trans hx185_3
        replace p185 := eq_true p185
        replace q185 := eq_true q185
        have hcz23_0 : wr.cell? ⟨gb184, 0, none⟩ = some (.slice A1_0 l1_0.length c1_0) := (ZG BK184.out 0).trans rfl
        have hcz23_1 : wr.cell? ⟨gb184, 1, none⟩ = some (.slice A1_1 l1_1.length c1_1) := (ZG BK184.out 1).trans rfl
        have hfz23_0 := ZF BK184.out 0
        have hfz23_1 := ZF BK184.out 1
        have p186 : 0 ≤ (x5_2 : Int) := ZOD
        have q186 : x5_2 < (l1_0.length : Int) := ZOD
        obtain ⟨ad186, e186, hx186_0, hx186_1, hx186_2, hx186_3⟩ := at_T40 HR1_0.out x5_2 p186 q186
        cases e186
        replace hx186_0 := (HB.out.cell (ZC w _ hx186_0)).trans hx186_0
        replace hx186_1 := (HB.out.cell (ZC w _ hx186_1)).trans hx186_1
        replace hx186_2 := (HB.out.cell (ZC w _ hx186_2)).trans hx186_2
        replace hx186_3 := (HB.out.cell (ZC w _ hx186_3)).trans hx186_3
        replace p186 := eq_true p186
        replace q186 := eq_true q186
        go_wp2
        repeat (go_quiet (fail); try go_wp2)
        go_roundg k2
        case measure => have := HJ2.out; have := HK2.out; omega
        case rel => exact ⟨(wrap64 (x5_2 + 1)), (by first | rfl | (simp; done) | (simp [*]; done)), H', ⟨by have := HJ2.out; have := HK2.out; omega⟩, ⟨ZBK BK183.out⟩, ⟨ZBK BK184.out⟩, ⟨ZBB HB.out⟩⟩
      ·rw [if_neg c14] at H
       have c14b0 : decide (x5_2 < (l0_0.length : Int)) = false := decide_eq_false c14
       clear c14
       have H' := ZM H
       clear H
       have hnb24 := NB183_184.out
       have hnc24 := NB184_183.out
       have hcz25_0 : wr.cell? ⟨gb183, 0, none⟩ = some (.slice A0_0 l0_0.length c0_0) := (ZG BK183.out 0).trans rfl
       have hcz25_1 : wr.cell? ⟨gb183, 1, none⟩ = some (.slice A0_1 l0_1.length c0_1) := (ZG BK183.out 1).trans rfl
       have hfz25_0 := ZF BK183.out 0
       have hfz25_1 := ZF BK183.out 1
       go_wp2
       repeat (go_quiet (fail); try go_wp2)
       go_loopg [6] k2 (fun kq v6 w' => ∃ (x6_3 : Int), v6 = .int .i64 x6_3 ∧ Aside0 (meanderref08_SameGraph.l1 kq x6_3 l0_0 l0_1 l1_0 l1_1 = some r) ∧ Aside0 (kq ≤ k2) ∧ Aside0 (w'.heap[gb183]? = some (.cells #[(.slice A0_0 l0_0.length c0_0), (.slice A0_1 l0_1.length c0_1)] 27 (0, 0))) ∧ Aside0 (w'.heap[gb184]? = some (.cells #[(.slice A1_0 l1_0.length c1_0), (.slice A1_1 l1_1.length c1_1)] 27 (0, 0))) ∧ Aside0 (Below w.heap.size w w'))
       case atStart => exact ⟨(0), (by first | rfl | (simp; done) | (simp [*]; done)), H', ⟨Nat.le_refl _⟩, ⟨ZBK BK183.out⟩, ⟨ZBK BK184.out⟩, ⟨ZBB HB.out⟩⟩
       case round =>
        clear H'
        try clear c6
        try clear c6b0
        try clear c6b1
        try clear c6b2
        try clear c13
        try clear c14
        try clear c14b0
        try clear c15
        try clear c15b0
        try clear c16
        try clear c16b0
        try clear c17
        try clear c17b0
        try clear hcz11_0
        try clear hcz11_1
        try clear hcz12_0
        try clear hcz12_1
        try clear hcz19_0
        try clear hcz19_1
        try clear hcz20_0
        try clear hcz20_1
        try clear hcz22_0
        try clear hcz22_1
        try clear hcz23_0
        try clear hcz23_1
        try clear hcz25_0
        try clear hcz25_1
        try clear hcz8_0
        try clear hcz8_1
        try clear hcz9_0
        try clear hcz9_1
        try clear hfz11_0
        try clear hfz11_1
        try clear hfz12_0
        try clear hfz12_1
        try clear hfz19_0
        try clear hfz19_1
        try clear hfz20_0
        try clear hfz20_1
        try clear hfz22_0
        try clear hfz22_1
        try clear hfz23_0
        try clear hfz23_1
        try clear hfz25_0
        try clear hfz25_1
        try clear hfz8_0
        try clear hfz8_1
        try clear hfz9_0
        try clear hfz9_1
        try clear hx185_0
        try clear hx185_1
        try clear hx185_2
        try clear hx185_3
        try clear hx186_0
        try clear hx186_1
        try clear hx186_2
        try clear hx186_3
        try clear p185
        try clear p186
        try clear q185
        try clear q186
        obtain ⟨x6_3, rfl, HA, HK3, BK183, BK184, HB⟩ := hrel
        cases gk with
        | zero => exact absurd HA.out (by simp [meanderref08_SameGraph.l1])
        | succ k3 =>
         have H := HA.out
         clear HA
         simp only [meanderref08_SameGraph.l1] at H
         by_cases c26 : x6_3 < (l0_1.length : Int)
         ·rw [if_pos c26] at H
          have c26b0 : decide (x6_3 < (l0_1.length : Int)) = true := decide_eq_true c26
          clear c26
          by_cases c27 : 0 ≤ x6_3
          case neg =>
           rw [if_neg c27] at H
           exact absurd H (by simp)
          rw [if_pos c27] at H
          have c27b0 : decide (0 ≤ x6_3) = true := decide_eq_true c27
          clear c27
          by_cases c28 : x6_3 < (l1_1.length : Int)
          case neg =>
           rw [if_neg c28] at H
           exact absurd H (by simp)
          rw [if_pos c28] at H
          have c28b0 : decide (x6_3 < (l1_1.length : Int)) = true := decide_eq_true c28
          clear c28
          by_cases c29 : (!(((rd_T42 l0_1 x6_3).f0) == ((rd_T42 l1_1 x6_3).f0)) || (!(((rd_T42 l0_1 x6_3).f1) == ((rd_T42 l1_1 x6_3).f1)) || (!(((rd_T42 l0_1 x6_3).f2) == ((rd_T42 l1_1 x6_3).f2))))) = true
          ·rw [if_pos c29] at H
           have c29b0 : (!(((rd_T42 l0_1 x6_3).f0) == ((rd_T42 l1_1 x6_3).f0)) || (!(((rd_T42 l0_1 x6_3).f1) == ((rd_T42 l1_1 x6_3).f1)) || (!(((rd_T42 l0_1 x6_3).f2) == ((rd_T42 l1_1 x6_3).f2))))) = true := c29
           clear c29
           obtain rfl := Option.some.inj H
           have hnb30 := NB183_184.out
           have hnc30 := NB184_183.out
           have hcz31_0 : wr.cell? ⟨gb183, 0, none⟩ = some (.slice A0_0 l0_0.length c0_0) := (ZG BK183.out 0).trans rfl
           have hcz31_1 : wr.cell? ⟨gb183, 1, none⟩ = some (.slice A0_1 l0_1.length c0_1) := (ZG BK183.out 1).trans rfl
           have hfz31_0 := ZF BK183.out 0
           have hfz31_1 := ZF BK183.out 1
           have p187 : 0 ≤ (x6_3 : Int) := ZOD
           have q187 : x6_3 < (l0_1.length : Int) := ZOD
           obtain ⟨ad187, e187, hx187_0, hx187_1, hx187_2⟩ := at_T42 HR0_1.out x6_3 p187 q187
           cases e187
           replace hx187_0 := (HB.out.cell (ZC w _ hx187_0)).trans hx187_0
           replace hx187_1 := (HB.out.cell (ZC w _ hx187_1)).trans hx187_1
           replace hx187_2 := (HB.out.cell (ZC w _ hx187_2)).trans hx187_2
           replace p187 := eq_true p187
           replace q187 := eq_true q187
           have hcz32_0 : wr.cell? ⟨gb184, 0, none⟩ = some (.slice A1_0 l1_0.length c1_0) := (ZG BK184.out 0).trans rfl
           have hcz32_1 : wr.cell? ⟨gb184, 1, none⟩ = some (.slice A1_1 l1_1.length c1_1) := (ZG BK184.out 1).trans rfl
           have hfz32_0 := ZF BK184.out 0
           have hfz32_1 := ZF BK184.out 1
           have p188 : 0 ≤ (x6_3 : Int) := ZOD
           have q188 : x6_3 < (l1_1.length : Int) := ZOD
           obtain ⟨ad188, e188, hx188_0, hx188_1, hx188_2⟩ := at_T42 HR1_1.out x6_3 p188 q188
           cases e188
           replace hx188_0 := (HB.out.cell (ZC w _ hx188_0)).trans hx188_0
           replace hx188_1 := (HB.out.cell (ZC w _ hx188_1)).trans hx188_1
           replace hx188_2 := (HB.out.cell (ZC w _ hx188_2)).trans hx188_2
           replace p188 := eq_true p188
           replace q188 := eq_true q188
           go_wp2
           repeat (go_quiet (fail); try go_wp2)
           go_ret
           exact ⟨by first | rfl | (simp [errW_none, errW_some] <;> rfl) | (simp [*, errW_none, errW_some] <;> rfl), ZBB HB.out⟩
          ·rw [if_neg c29] at H
           have c29b0 : (!(((rd_T42 l0_1 x6_3).f0) == ((rd_T42 l1_1 x6_3).f0)) || (!(((rd_T42 l0_1 x6_3).f1) == ((rd_T42 l1_1 x6_3).f1)) || (!(((rd_T42 l0_1 x6_3).f2) == ((rd_T42 l1_1 x6_3).f2))))) = false := by simpa using c29
           clear c29
           have H' := ZM H
           clear H
           have hnb33 := NB183_184.out
           have hnc33 := NB184_183.out
           have hcz34_0 : wr.cell? ⟨gb183, 0, none⟩ = some (.slice A0_0 l0_0.length c0_0) := (ZG BK183.out 0).trans rfl
           have hcz34_1 : wr.cell? ⟨gb183, 1, none⟩ = some (.slice A0_1 l0_1.length c0_1) := (ZG BK183.out 1).trans rfl
           have hfz34_0 := ZF BK183.out 0
           have hfz34_1 := ZF BK183.out 1
           have p187 : 0 ≤ (x6_3 : Int) := ZOD
           have q187 : x6_3 < (l0_1.length : Int) := ZOD
           obtain ⟨ad187, e187, hx187_0, hx187_1, hx187_2⟩ := at_T42 HR0_1.out x6_3 p187 q187
           cases e187
           replace hx187_0 := (HB.out.cell (ZC w _ hx187_0)).trans hx187_0
           replace hx187_1 := (HB.out.cell (ZC w _ hx187_1)).trans hx187_1
           replace hx187_2 := (HB.out.cell (ZC w _ hx187_2)).trans hx187_2
           replace p187 := eq_true p187
           replace q187 := eq_true q187
           have hcz35_0 : wr.cell? ⟨gb184, 0, none⟩ = some (.slice A1_0 l1_0.length c1_0) := (ZG BK184.out 0).trans rfl
           have hcz35_1 : wr.cell? ⟨gb184, 1, none⟩ = some (.slice A1_1 l1_1.length c1_1) := (ZG BK184.out 1).trans rfl
           have hfz35_0 := ZF BK184.out 0
           have hfz35_1 := ZF BK184.out 1
           have p188 : 0 ≤ (x6_3 : Int) := ZOD
           have q188 : x6_3 < (l1_1.length : Int) := ZOD
           obtain ⟨ad188, e188, hx188_0, hx188_1, hx188_2⟩ := at_T42 HR1_1.out x6_3 p188 q188
           cases e188
           replace hx188_0 := (HB.out.cell (ZC w _ hx188_0)).trans hx188_0
           replace hx188_1 := (HB.out.cell (ZC w _ hx188_1)).trans hx188_1
           replace hx188_2 := (HB.out.cell (ZC w _ hx188_2)).trans hx188_2
           replace p188 := eq_true p188
           replace q188 := eq_true q188
           go_wp2
           repeat (go_quiet (fail); try go_wp2)
           go_roundg k3
           case measure => have := HJ2.out; have := HK2.out; have := HK3.out; omega
           case rel => exact ⟨(wrap64 (x6_3 + 1)), (by first | rfl | (simp; done) | (simp [*]; done)), H', ⟨by have := HJ2.out; have := HK2.out; have := HK3.out; omega⟩, ⟨ZBK BK183.out⟩, ⟨ZBK BK184.out⟩, ⟨ZBB HB.out⟩⟩
         ·rw [if_neg c26] at H
          have c26b0 : decide (x6_3 < (l0_1.length : Int)) = false := decide_eq_false c26
          clear c26
          obtain rfl := Option.some.inj H
          have hnb36 := NB183_184.out
          have hnc36 := NB184_183.out
          have hcz37_0 : wr.cell? ⟨gb183, 0, none⟩ = some (.slice A0_0 l0_0.length c0_0) := (ZG BK183.out 0).trans rfl
          have hcz37_1 : wr.cell? ⟨gb183, 1, none⟩ = some (.slice A0_1 l0_1.length c0_1) := (ZG BK183.out 1).trans rfl
          have hfz37_0 := ZF BK183.out 0
          have hfz37_1 := ZF BK183.out 1
          go_wp2
          repeat (go_quiet (fail); try go_wp2)
          go_ret
          exact ⟨by first | rfl | (simp [errW_none, errW_some] <;> rfl) | (simp [*, errW_none, errW_some] <;> rfl), ZBB HB.out⟩

/-! ### meanderref06_small: function 71 -/
def meanderref06_small.f (a0 : Int) : Option (Bool) := if a0 ≥ (-1000) then (some (decide (a0 ≤ 1000))) else (some false)
set_option maxHeartbeats 8000000 in
set_option maxRecDepth 100000 in
theorem meanderref06_small.calls (a0 : Int) (r : Bool) (w : World) (h : meanderref06_small.f a0 = some r) :
  Calls Tryd.prog 71 #[.int .i64 a0] w fun e w' => e = .returned (.bool r) ∧ Drawn0 w w' := by
 have H : (if a0 ≥ (-1000) then (some (decide (a0 ≤ 1000))) else (some false)) = some r := h
 clear h
 by_cases c2 : a0 ≥ (-1000)
 ·rw [if_pos c2] at H
  have c2b0 : decide ((-1000) ≤ a0) = true := decide_eq_true c2
  clear c2
  obtain rfl := Option.some.inj H
  go_enter Tryd.func71, Tryd.ntmps71
  go_wp2
  go_ret
  exact ⟨by first | rfl | (simp; done) | (simp [*]; done), by repeat (first | exact Drawn0.refl _ | apply Drawn0.step)⟩
 ·rw [if_neg c2] at H
  have c2b0 : decide ((-1000) ≤ a0) = false := decide_eq_false c2
  clear c2
  obtain rfl := Option.some.inj H
  go_enter Tryd.func71, Tryd.ntmps71
  go_wp2
  go_ret
  exact ⟨by first | rfl | (simp; done) | (simp [*]; done), by repeat (first | exact Drawn0.refl _ | apply Drawn0.step)⟩

/-! ### meanderref06_MayMap: function 40 -/
def meanderref06_MayMap.f (a0 : Int) (a1 : Int) : Option (Bool) := if a0 ≥ 1 then (if a0 ≤ 5 then ((meanderref06_small.f a1).bind fun t189 => (if t189 = true then (if a0 = 3 then (some (decide (a1 ≥ 1))) else (some true)) else (some false))) else (some false)) else (some false)
set_option maxHeartbeats 8000000 in
set_option maxRecDepth 100000 in
theorem meanderref06_MayMap.calls (a0 : Int) (a1 : Int) (r : Bool) (w : World) (h : meanderref06_MayMap.f a0 a1 = some r) :
  Calls Tryd.prog 40 #[.int .i64 a0, .int .i64 a1] w fun e w' => e = .returned (.bool r) ∧ Drawn0 w w' := by
 have H : (if a0 ≥ 1 then (if a0 ≤ 5 then ((meanderref06_small.f a1).bind fun t189 => (if t189 = true then (if a0 = 3 then (some (decide (a1 ≥ 1))) else (some true)) else (some false))) else (some false)) else (some false)) = some r := h
 clear h
 by_cases c3 : a0 ≥ 1
 ·rw [if_pos c3] at H
  have c3b0 : decide (1 ≤ a0) = true := decide_eq_true c3
  clear c3
  by_cases c4 : a0 ≤ 5
  ·rw [if_pos c4] at H
   have c4b0 : decide (a0 ≤ 5) = true := decide_eq_true c4
   clear c4
   replace H := Option.bind_eq_some_iff.mp H
   obtain ⟨t189, A50, H⟩ := H
   replace H : (if t189 = true then (if a0 = 3 then (some (decide (a1 ≥ 1))) else (some true)) else (some false)) = some r := H
   have A5 := ZM A50
   clear A50
   by_cases c6 : t189 = true
   ·subst c6
    have H1 : (if a0 = 3 then (some (decide (a1 ≥ 1))) else (some true)) = some r := by rw [if_pos rfl] at H; exact H
    clear H
    have H := H1
    clear H1
    by_cases c7 : a0 = 3
    ·rw [if_pos c7] at H
     have c7b0 : (a0 == 3) = true := beq_iff_eq.mpr c7
     have c7b1 : (a0 != 3) = false := bne_eq_false_iff_eq.mpr c7
     clear c7
     obtain rfl := Option.some.inj H
     go_enter Tryd.func40, Tryd.ntmps40
     go_wp2_with (first | (go_at_call 71; (with_reducible refine (meanderref06_small.calls a1 true _ A5.out).mono ?_); rintro e w' ⟨rfl, ⟨nd, rfl⟩⟩))
     go_ret
     exact ⟨by first | rfl | (simp; done) | (simp [*]; done), by repeat (first | exact Drawn0.refl _ | apply Drawn0.step)⟩
    ·rw [if_neg c7] at H
     have c7b0 : (a0 == 3) = false := beq_eq_false_iff_ne.mpr c7
     have c7b1 : (a0 != 3) = true := bne_iff_ne.mpr c7
     obtain rfl := Option.some.inj H
     go_enter Tryd.func40, Tryd.ntmps40
     go_wp2_with (first | (go_at_call 71; (with_reducible refine (meanderref06_small.calls a1 true _ A5.out).mono ?_); rintro e w' ⟨rfl, ⟨nd, rfl⟩⟩))
     go_ret
     exact ⟨by first | rfl | (simp; done) | (simp [*]; done), by repeat (first | exact Drawn0.refl _ | apply Drawn0.step)⟩
   ·replace c6 := Bool.eq_false_iff.mpr c6
    subst c6
    have H1 : (some false) = some r := by rw [if_neg (show ¬ (false = true) by decide)] at H; exact H
    clear H
    have H := H1
    clear H1
    obtain rfl := Option.some.inj H
    go_enter Tryd.func40, Tryd.ntmps40
    go_wp2_with (first | (go_at_call 71; (with_reducible refine (meanderref06_small.calls a1 false _ A5.out).mono ?_); rintro e w' ⟨rfl, ⟨nd, rfl⟩⟩))
    go_ret
    exact ⟨by first | rfl | (simp; done) | (simp [*]; done), by repeat (first | exact Drawn0.refl _ | apply Drawn0.step)⟩
  ·rw [if_neg c4] at H
   have c4b0 : decide (a0 ≤ 5) = false := decide_eq_false c4
   clear c4
   obtain rfl := Option.some.inj H
   go_enter Tryd.func40, Tryd.ntmps40
   go_wp2
   go_ret
   exact ⟨by first | rfl | (simp; done) | (simp [*]; done), by repeat (first | exact Drawn0.refl _ | apply Drawn0.step)⟩
 ·rw [if_neg c3] at H
  have c3b0 : decide (1 ≤ a0) = false := decide_eq_false c3
  clear c3
  obtain rfl := Option.some.inj H
  go_enter Tryd.func40, Tryd.ntmps40
  go_wp2
  go_ret
  exact ⟨by first | rfl | (simp; done) | (simp [*]; done), by repeat (first | exact Drawn0.refl _ | apply Drawn0.step)⟩

/-! ### meanderref06_MayFilter: function 41 -/
def meanderref06_MayFilter.f (a0 : Int) (a1 : Int) : Option (Bool) := if a0 ≥ 1 then (if a0 ≤ 4 then ((meanderref06_small.f a1).bind fun t190 => (if t190 = true then (if a0 = 3 then (some (decide (a1 ≥ 1))) else (some true)) else (some false))) else (some false)) else (some false)
set_option maxHeartbeats 8000000 in
set_option maxRecDepth 100000 in
theorem meanderref06_MayFilter.calls (a0 : Int) (a1 : Int) (r : Bool) (w : World) (h : meanderref06_MayFilter.f a0 a1 = some r) :
  Calls Tryd.prog 41 #[.int .i64 a0, .int .i64 a1] w fun e w' => e = .returned (.bool r) ∧ Drawn0 w w' := by
 have H : (if a0 ≥ 1 then (if a0 ≤ 4 then ((meanderref06_small.f a1).bind fun t190 => (if t190 = true then (if a0 = 3 then (some (decide (a1 ≥ 1))) else (some true)) else (some false))) else (some false)) else (some false)) = some r := h
 clear h
 by_cases c3 : a0 ≥ 1
 ·rw [if_pos c3] at H
  have c3b0 : decide (1 ≤ a0) = true := decide_eq_true c3
  clear c3
  by_cases c4 : a0 ≤ 4
  ·rw [if_pos c4] at H
   have c4b0 : decide (a0 ≤ 4) = true := decide_eq_true c4
   clear c4
   replace H := Option.bind_eq_some_iff.mp H
   obtain ⟨t190, A50, H⟩ := H
   replace H : (if t190 = true then (if a0 = 3 then (some (decide (a1 ≥ 1))) else (some true)) else (some false)) = some r := H
   have A5 := ZM A50
   clear A50
   by_cases c6 : t190 = true
   ·subst c6
    have H1 : (if a0 = 3 then (some (decide (a1 ≥ 1))) else (some true)) = some r := by rw [if_pos rfl] at H; exact H
    clear H
    have H := H1
    clear H1
    by_cases c7 : a0 = 3
    ·rw [if_pos c7] at H
     have c7b0 : (a0 == 3) = true := beq_iff_eq.mpr c7
     have c7b1 : (a0 != 3) = false := bne_eq_false_iff_eq.mpr c7
     clear c7
     obtain rfl := Option.some.inj H
     go_enter Tryd.func41, Tryd.ntmps41
     go_wp2_with (first | (go_at_call 71; (with_reducible refine (meanderref06_small.calls a1 true _ A5.out).mono ?_); rintro e w' ⟨rfl, ⟨nd, rfl⟩⟩))
     go_ret
     exact ⟨by first | rfl | (simp; done) | (simp [*]; done), by repeat (first | exact Drawn0.refl _ | apply Drawn0.step)⟩
    ·rw [if_neg c7] at H
     have c7b0 : (a0 == 3) = false := beq_eq_false_iff_ne.mpr c7
     have c7b1 : (a0 != 3) = true := bne_iff_ne.mpr c7
     obtain rfl := Option.some.inj H
     go_enter Tryd.func41, Tryd.ntmps41
     go_wp2_with (first | (go_at_call 71; (with_reducible refine (meanderref06_small.calls a1 true _ A5.out).mono ?_); rintro e w' ⟨rfl, ⟨nd, rfl⟩⟩))
     go_ret
     exact ⟨by first | rfl | (simp; done) | (simp [*]; done), by repeat (first | exact Drawn0.refl _ | apply Drawn0.step)⟩
   ·replace c6 := Bool.eq_false_iff.mpr c6
    subst c6
    have H1 : (some false) = some r := by rw [if_neg (show ¬ (false = true) by decide)] at H; exact H
    clear H
    have H := H1
    clear H1
    obtain rfl := Option.some.inj H
    go_enter Tryd.func41, Tryd.ntmps41
    go_wp2_with (first | (go_at_call 71; (with_reducible refine (meanderref06_small.calls a1 false _ A5.out).mono ?_); rintro e w' ⟨rfl, ⟨nd, rfl⟩⟩))
    go_ret
    exact ⟨by first | rfl | (simp; done) | (simp [*]; done), by repeat (first | exact Drawn0.refl _ | apply Drawn0.step)⟩
  ·rw [if_neg c4] at H
   have c4b0 : decide (a0 ≤ 4) = false := decide_eq_false c4
   clear c4
   obtain rfl := Option.some.inj H
   go_enter Tryd.func41, Tryd.ntmps41
   go_wp2
   go_ret
   exact ⟨by first | rfl | (simp; done) | (simp [*]; done), by repeat (first | exact Drawn0.refl _ | apply Drawn0.step)⟩
 ·rw [if_neg c3] at H
  have c3b0 : decide (1 ≤ a0) = false := decide_eq_false c3
  clear c3
  obtain rfl := Option.some.inj H
  go_enter Tryd.func41, Tryd.ntmps41
  go_wp2
  go_ret
  exact ⟨by first | rfl | (simp; done) | (simp [*]; done), by repeat (first | exact Drawn0.refl _ | apply Drawn0.step)⟩

/-! ### meanderref06_MayReduce: function 42 -/
def meanderref06_MayReduce.f (a0 : Int) : Option (Bool) := if a0 ≥ 1 then (some (decide (a0 ≤ 4))) else (some false)
set_option maxHeartbeats 8000000 in
set_option maxRecDepth 100000 in
theorem meanderref06_MayReduce.calls (a0 : Int) (r : Bool) (w : World) (h : meanderref06_MayReduce.f a0 = some r) :
  Calls Tryd.prog 42 #[.int .i64 a0] w fun e w' => e = .returned (.bool r) ∧ Drawn0 w w' := by
 have H : (if a0 ≥ 1 then (some (decide (a0 ≤ 4))) else (some false)) = some r := h
 clear h
 by_cases c2 : a0 ≥ 1
 ·rw [if_pos c2] at H
  have c2b0 : decide (1 ≤ a0) = true := decide_eq_true c2
  clear c2
  obtain rfl := Option.some.inj H
  go_enter Tryd.func42, Tryd.ntmps42
  go_wp2
  go_ret
  exact ⟨by first | rfl | (simp; done) | (simp [*]; done), by repeat (first | exact Drawn0.refl _ | apply Drawn0.step)⟩
 ·rw [if_neg c2] at H
  have c2b0 : decide (1 ≤ a0) = false := decide_eq_false c2
  clear c2
  obtain rfl := Option.some.inj H
  go_enter Tryd.func42, Tryd.ntmps42
  go_wp2
  go_ret
  exact ⟨by first | rfl | (simp; done) | (simp [*]; done), by repeat (first | exact Drawn0.refl _ | apply Drawn0.step)⟩

/-! ### meanderref07_May: function 43 -/
def meanderref07_May.f (a0 : Int) (a1 : Int) : Option (Bool) := if a0 ≥ 1 then (if a0 ≤ 20 then (if a1 ≥ 1 then (some (decide (a1 ≤ a0))) else (some false)) else (some false)) else (some false)
set_option maxHeartbeats 8000000 in
set_option maxRecDepth 100000 in
theorem meanderref07_May.calls (a0 : Int) (a1 : Int) (r : Bool) (w : World) (h : meanderref07_May.f a0 a1 = some r) :
  Calls Tryd.prog 43 #[.int .i64 a0, .int .i64 a1] w fun e w' => e = .returned (.bool r) ∧ Drawn0 w w' := by
 have H : (if a0 ≥ 1 then (if a0 ≤ 20 then (if a1 ≥ 1 then (some (decide (a1 ≤ a0))) else (some false)) else (some false)) else (some false)) = some r := h
 clear h
 by_cases c3 : a0 ≥ 1
 ·rw [if_pos c3] at H
  have c3b0 : decide (1 ≤ a0) = true := decide_eq_true c3
  clear c3
  by_cases c4 : a0 ≤ 20
  ·rw [if_pos c4] at H
   have c4b0 : decide (a0 ≤ 20) = true := decide_eq_true c4
   clear c4
   by_cases c5 : a1 ≥ 1
   ·rw [if_pos c5] at H
    have c5b0 : decide (1 ≤ a1) = true := decide_eq_true c5
    clear c5
    obtain rfl := Option.some.inj H
    go_enter Tryd.func43, Tryd.ntmps43
    go_wp2
    go_ret
    exact ⟨by first | rfl | (simp; done) | (simp [*]; done), by repeat (first | exact Drawn0.refl _ | apply Drawn0.step)⟩
   ·rw [if_neg c5] at H
    have c5b0 : decide (1 ≤ a1) = false := decide_eq_false c5
    clear c5
    obtain rfl := Option.some.inj H
    go_enter Tryd.func43, Tryd.ntmps43
    go_wp2
    go_ret
    exact ⟨by first | rfl | (simp; done) | (simp [*]; done), by repeat (first | exact Drawn0.refl _ | apply Drawn0.step)⟩
  ·rw [if_neg c4] at H
   have c4b0 : decide (a0 ≤ 20) = false := decide_eq_false c4
   clear c4
   obtain rfl := Option.some.inj H
   go_enter Tryd.func43, Tryd.ntmps43
   go_wp2
   go_ret
   exact ⟨by first | rfl | (simp; done) | (simp [*]; done), by repeat (first | exact Drawn0.refl _ | apply Drawn0.step)⟩
 ·rw [if_neg c3] at H
  have c3b0 : decide (1 ≤ a0) = false := decide_eq_false c3
  clear c3
  obtain rfl := Option.some.inj H
  go_enter Tryd.func43, Tryd.ntmps43
  go_wp2
  go_ret
  exact ⟨by first | rfl | (simp; done) | (simp [*]; done), by repeat (first | exact Drawn0.refl _ | apply Drawn0.step)⟩

end Go.Proofs.YtbjjcolbomaodaaDoor.PLdp
