-- Grafted by graft.py of this repo out of a print of the kit's printer. Not trusted: Lean checks it.
import Derived.Test.YtjlnjlnecipllaaPAllx0
import Derived.Test.YtjlnjlnecipllaaPAllx1
import Derived.Test.YtjlnjlnecipllaaPAllx16
import Derived.Test.YtjlnjlnecipllaaPAllx17
import Derived.Test.YtjlnjlnecipllaaPAllx4
import Derived.Test.YtjlnjlnecipllaaPAllx5
import Derived.Test.YtjlnjlnecipllaaPAllx7
import Derived.Test.YtjlnjlnecipllaaPAllx8
namespace Go.Proofs.Ytjlnjlnecipllaa.PAll
open Go.RowKit Go.Proofs.YtjlnjlnecipllaaW.PrintWords Go.Proofs.YtjlnjlnecipllaaW.PrintLast Go.Proofs.YtjlnjlnecipllaaW.PrintMore
attribute [local go_sem] max2_int min2_int max_two min_two max_three min_three max_four min_four   -- for this text's walks alone
set_option linter.unusedVariables false
set_option linter.unusedSimpArgs false

/-! ### meanderlaw09_ValidRound_Rnd: function 8 -/
mutual
def meanderlaw09_ValidRound_Rnd.j0 : Nat → List Int → Bool → Int → List (S23) → List (S36) → Option (Bool)
 | 0, _, _, _, _, _ => none
 | k + 1, x2, x7, x8, x292000, x292001 => if 0 ≤ x8 then (if x8 < (x292000.length : Int) then ((meanderref02_Same.f ((rd_T23 x292000 x8).f3)).bind fun bt301 => (meanderlaw09_ValidRound_Rnd.l0 k x2 x7 x8 x8 0 x292000 x292001 bt301.1 bt301.2.1 bt301.2.2.1 bt301.2.2.2.1 bt301.2.2.2.2.1 bt301.2.2.2.2.2.1 bt301.2.2.2.2.2.2)) else (none)) else (none)
def meanderlaw09_ValidRound_Rnd.l0 : Nat → List Int → Bool → Int → Int → Int → List (S23) → List (S36) → Int → Int → Int → Int → Int → Int → Int → Option (Bool)
 | 0, _, _, _, _, _, _, _, _, _, _, _, _, _, _ => none
 | k + 1, x2, x7, x8, x9, x11, x292000, x292001, x309000, x309001, x309002, x309003, x309004, x309005, x309006 => if x11 < (x2.length : Int) then (meanderlaw09_ValidRound_Rnd.j2 k x2 x7 x8 x9 x11 (decide (x11 < 30)) x292000 x292001 x309000 x309001 x309002 x309003 x309004 x309005 x309006) else (meanderlaw09_ValidRound_Rnd.j2 k x2 x7 x8 x9 x11 false x292000 x292001 x309000 x309001 x309002 x309003 x309004 x309005 x309006)
def meanderlaw09_ValidRound_Rnd.j2 : Nat → List Int → Bool → Int → Int → Int → Bool → List (S23) → List (S36) → Int → Int → Int → Int → Int → Int → Int → Option (Bool)
 | 0, _, _, _, _, _, _, _, _, _, _, _, _, _, _, _ => none
 | k + 1, x2, x7, x8, x9, x11, x48, x292000, x292001, x309000, x309001, x309002, x309003, x309004, x309005, x309006 => if x48 = true then ((graph_Next.f k x292000 x292001 x9).bind fun t309 => (if (t309.length : Int) = 0 then (some x7) else (if 0 ≤ x11 then (if x11 < (x2.length : Int) then (if (Int.tmod (rd x2 x11) (t309.length : Int)) < 0 then (meanderlaw09_ValidRound_Rnd.j3 k x2 x7 x8 x11 t309 (wrap64 (-(Int.tmod (rd x2 x11) (t309.length : Int)))) x292000 x292001 x309000 x309001 x309002 x309003 x309004 x309005 x309006) else (meanderlaw09_ValidRound_Rnd.j3 k x2 x7 x8 x11 t309 (Int.tmod (rd x2 x11) (t309.length : Int)) x292000 x292001 x309000 x309001 x309002 x309003 x309004 x309005 x309006)) else (none)) else (none)))) else (some x7)
def meanderlaw09_ValidRound_Rnd.j3 : Nat → List Int → Bool → Int → Int → List (S47) → Int → List (S23) → List (S36) → Int → Int → Int → Int → Int → Int → Int → Option (Bool)
 | 0, _, _, _, _, _, _, _, _, _, _, _, _, _, _, _ => none
 | k + 1, x2, x7, x8, x11, x12, x13, x292000, x292001, x309000, x309001, x309002, x309003, x309004, x309005, x309006 => if 0 ≤ x13 then (if x13 < (x12.length : Int) then (if 0 ≤ ((rd_T47 x12 x13).f0) then (if ((rd_T47 x12 x13).f0) < (x292000.length : Int) then ((graph_HasOut.f ((rd_T23 x292000 ((rd_T47 x12 x13).f0)).f0)).bind fun t315 => (if t315 = true then ((graph_Inner.f ((rd_T23 x292000 ((rd_T47 x12 x13).f0)).f0) ((rd_T23 x292000 ((rd_T47 x12 x13).f0)).f1) ((rd_T23 x292000 ((rd_T47 x12 x13).f0)).f2) ((rd_T23 x292000 ((rd_T47 x12 x13).f0)).f3)).bind fun bt317 => ((meanderref02_Then.f x309000 x309001 x309002 x309003 x309004 x309005 x309006 bt317.1 bt317.2.1 bt317.2.2.1 bt317.2.2.2.1 bt317.2.2.2.2.1 bt317.2.2.2.2.2.1 bt317.2.2.2.2.2.2).bind fun bt324 => (if bt324.2.2.2.2.2.2.2 = 0 then (if 0 ≤ x8 then (if x8 < (x292000.length : Int) then ((meanderref02_Same.f ((rd_T23 x292000 x8).f3)).bind fun bt334 => ((meanderref02_LessEq.f bt324.1 bt324.2.1 bt324.2.2.1 bt324.2.2.2.1 bt324.2.2.2.2.1 bt324.2.2.2.2.2.1 bt324.2.2.2.2.2.2.1 bt334.1 bt334.2.1 bt334.2.2.1 bt334.2.2.2.1 bt334.2.2.2.2.1 bt334.2.2.2.2.2.1 bt334.2.2.2.2.2.2).bind fun t341 => (if ((rd_T47 x12 x13).f0) = x8 then (if t341 = true then (none) else (meanderlaw09_ValidRound_Rnd.l0 k x2 x7 x8 ((rd_T47 x12 x13).f0) (wrap64 (x11 + 1)) x292000 x292001 bt324.1 bt324.2.1 bt324.2.2.1 bt324.2.2.2.1 bt324.2.2.2.2.1 bt324.2.2.2.2.2.1 bt324.2.2.2.2.2.2.1)) else (meanderlaw09_ValidRound_Rnd.l0 k x2 x7 x8 ((rd_T47 x12 x13).f0) (wrap64 (x11 + 1)) x292000 x292001 bt324.1 bt324.2.1 bt324.2.2.1 bt324.2.2.2.1 bt324.2.2.2.2.1 bt324.2.2.2.2.2.1 bt324.2.2.2.2.2.2.1)))) else (none)) else (none)) else (none)))) else (some x7))) else (none)) else (none)) else (none)) else (none)
end
def meanderlaw09_ValidRound_Rnd.f (k : Nat) (l0_0 : List (S23)) (l0_1 : List (S36)) (a1 : Int) (l2 : List Int) : Option (Bool) := (meanderlaw09_shown.f k).bind fun t292 => ((meanderlaw09_few.f l0_0 l0_1).bind fun bt293 => ((valid_Graph.f k bt293.1 bt293.2).bind fun t299 => (if t299 = 0 then (if (bt293.1.length : Int) = 0 then (none) else (if (Int.tmod a1 (bt293.1.length : Int)) < 0 then (meanderlaw09_ValidRound_Rnd.j0 k l2 t292 (wrap64 (-(Int.tmod a1 (bt293.1.length : Int)))) bt293.1 bt293.2) else (meanderlaw09_ValidRound_Rnd.j0 k l2 t292 (Int.tmod a1 (bt293.1.length : Int)) bt293.1 bt293.2))) else (some t292))))
theorem meanderlaw09_ValidRound_Rnd.mono_l : ∀ k, (∀ y0 y1 y2 y3 y4, LeO (meanderlaw09_ValidRound_Rnd.j0 k y0 y1 y2 y3 y4) (meanderlaw09_ValidRound_Rnd.j0 (k + 1) y0 y1 y2 y3 y4)) ∧ (∀ y0 y1 y2 y3 y4 y5 y6 y7 y8 y9 y10 y11 y12 y13, LeO (meanderlaw09_ValidRound_Rnd.l0 k y0 y1 y2 y3 y4 y5 y6 y7 y8 y9 y10 y11 y12 y13) (meanderlaw09_ValidRound_Rnd.l0 (k + 1) y0 y1 y2 y3 y4 y5 y6 y7 y8 y9 y10 y11 y12 y13)) ∧ (∀ y0 y1 y2 y3 y4 y5 y6 y7 y8 y9 y10 y11 y12 y13 y14, LeO (meanderlaw09_ValidRound_Rnd.j2 k y0 y1 y2 y3 y4 y5 y6 y7 y8 y9 y10 y11 y12 y13 y14) (meanderlaw09_ValidRound_Rnd.j2 (k + 1) y0 y1 y2 y3 y4 y5 y6 y7 y8 y9 y10 y11 y12 y13 y14)) ∧ (∀ y0 y1 y2 y3 y4 y5 y6 y7 y8 y9 y10 y11 y12 y13 y14, LeO (meanderlaw09_ValidRound_Rnd.j3 k y0 y1 y2 y3 y4 y5 y6 y7 y8 y9 y10 y11 y12 y13 y14) (meanderlaw09_ValidRound_Rnd.j3 (k + 1) y0 y1 y2 y3 y4 y5 y6 y7 y8 y9 y10 y11 y12 y13 y14))
 | 0 => ⟨fun _ _ _ _ _ r h => by simp [meanderlaw09_ValidRound_Rnd.j0] at h, fun _ _ _ _ _ _ _ _ _ _ _ _ _ _ r h => by simp [meanderlaw09_ValidRound_Rnd.l0] at h, fun _ _ _ _ _ _ _ _ _ _ _ _ _ _ _ r h => by simp [meanderlaw09_ValidRound_Rnd.j2] at h, fun _ _ _ _ _ _ _ _ _ _ _ _ _ _ _ r h => by simp [meanderlaw09_ValidRound_Rnd.j3] at h⟩
 | k + 1 => by
  obtain ⟨ih0, ih1, ih2, ih3⟩ := meanderlaw09_ValidRound_Rnd.mono_l k
  refine ⟨?_, ?_, ?_, ?_⟩
  ·intro y0 y1 y2 y3 y4
   unfold meanderlaw09_ValidRound_Rnd.j0
   repeat' first
   | (with_reducible exact ih0 _ _ _ _ _)
   | (with_reducible exact ih1 _ _ _ _ _ _ _ _ _ _ _ _ _ _)
   | (with_reducible exact ih2 _ _ _ _ _ _ _ _ _ _ _ _ _ _ _)
   | (with_reducible exact ih3 _ _ _ _ _ _ _ _ _ _ _ _ _ _ _)
   | (with_reducible exact graph_Next.mono _ _ _ _)
   | (with_reducible exact meanderlaw09_shown.mono _)
   | (with_reducible exact valid_Graph.mono _ _ _)
   | (with_reducible exact LeO.refl _)
   | (with_reducible exact LeO.none _)
   | (with_reducible refine LeO.ite ?_ ?_)
   | (with_reducible refine LeO.bind ?_ (fun _ => ?_))
   | exact ih0 _ _ _ _ _
   | exact ih1 _ _ _ _ _ _ _ _ _ _ _ _ _ _
   | exact ih2 _ _ _ _ _ _ _ _ _ _ _ _ _ _ _
   | exact ih3 _ _ _ _ _ _ _ _ _ _ _ _ _ _ _
   | exact graph_Next.mono _ _ _ _
   | exact meanderlaw09_shown.mono _
   | exact valid_Graph.mono _ _ _
   | exact LeO.none _
   | refine LeO.ite ?_ ?_
   | refine LeO.bind ?_ (fun _ => ?_)
  ·intro y0 y1 y2 y3 y4 y5 y6 y7 y8 y9 y10 y11 y12 y13
   unfold meanderlaw09_ValidRound_Rnd.l0
   repeat' first
   | (with_reducible exact ih0 _ _ _ _ _)
   | (with_reducible exact ih1 _ _ _ _ _ _ _ _ _ _ _ _ _ _)
   | (with_reducible exact ih2 _ _ _ _ _ _ _ _ _ _ _ _ _ _ _)
   | (with_reducible exact ih3 _ _ _ _ _ _ _ _ _ _ _ _ _ _ _)
   | (with_reducible exact graph_Next.mono _ _ _ _)
   | (with_reducible exact meanderlaw09_shown.mono _)
   | (with_reducible exact valid_Graph.mono _ _ _)
   | (with_reducible exact LeO.refl _)
   | (with_reducible exact LeO.none _)
   | (with_reducible refine LeO.ite ?_ ?_)
   | (with_reducible refine LeO.bind ?_ (fun _ => ?_))
   | exact ih0 _ _ _ _ _
   | exact ih1 _ _ _ _ _ _ _ _ _ _ _ _ _ _
   | exact ih2 _ _ _ _ _ _ _ _ _ _ _ _ _ _ _
   | exact ih3 _ _ _ _ _ _ _ _ _ _ _ _ _ _ _
   | exact graph_Next.mono _ _ _ _
   | exact meanderlaw09_shown.mono _
   | exact valid_Graph.mono _ _ _
   | exact LeO.none _
   | refine LeO.ite ?_ ?_
   | refine LeO.bind ?_ (fun _ => ?_)
  ·intro y0 y1 y2 y3 y4 y5 y6 y7 y8 y9 y10 y11 y12 y13 y14
   unfold meanderlaw09_ValidRound_Rnd.j2
   repeat' first
   | (with_reducible exact ih0 _ _ _ _ _)
   | (with_reducible exact ih1 _ _ _ _ _ _ _ _ _ _ _ _ _ _)
   | (with_reducible exact ih2 _ _ _ _ _ _ _ _ _ _ _ _ _ _ _)
   | (with_reducible exact ih3 _ _ _ _ _ _ _ _ _ _ _ _ _ _ _)
   | (with_reducible exact graph_Next.mono _ _ _ _)
   | (with_reducible exact meanderlaw09_shown.mono _)
   | (with_reducible exact valid_Graph.mono _ _ _)
   | (with_reducible exact LeO.refl _)
   | (with_reducible exact LeO.none _)
   | (with_reducible refine LeO.ite ?_ ?_)
   | (with_reducible refine LeO.bind ?_ (fun _ => ?_))
   | exact ih0 _ _ _ _ _
   | exact ih1 _ _ _ _ _ _ _ _ _ _ _ _ _ _
   | exact ih2 _ _ _ _ _ _ _ _ _ _ _ _ _ _ _
   | exact ih3 _ _ _ _ _ _ _ _ _ _ _ _ _ _ _
   | exact graph_Next.mono _ _ _ _
   | exact meanderlaw09_shown.mono _
   | exact valid_Graph.mono _ _ _
   | exact LeO.none _
   | refine LeO.ite ?_ ?_
   | refine LeO.bind ?_ (fun _ => ?_)
  ·intro y0 y1 y2 y3 y4 y5 y6 y7 y8 y9 y10 y11 y12 y13 y14
   unfold meanderlaw09_ValidRound_Rnd.j3
   repeat' first
   | (with_reducible exact ih0 _ _ _ _ _)
   | (with_reducible exact ih1 _ _ _ _ _ _ _ _ _ _ _ _ _ _)
   | (with_reducible exact ih2 _ _ _ _ _ _ _ _ _ _ _ _ _ _ _)
   | (with_reducible exact ih3 _ _ _ _ _ _ _ _ _ _ _ _ _ _ _)
   | (with_reducible exact graph_Next.mono _ _ _ _)
   | (with_reducible exact meanderlaw09_shown.mono _)
   | (with_reducible exact valid_Graph.mono _ _ _)
   | (with_reducible exact LeO.refl _)
   | (with_reducible exact LeO.none _)
   | (with_reducible refine LeO.ite ?_ ?_)
   | (with_reducible refine LeO.bind ?_ (fun _ => ?_))
   | exact ih0 _ _ _ _ _
   | exact ih1 _ _ _ _ _ _ _ _ _ _ _ _ _ _
   | exact ih2 _ _ _ _ _ _ _ _ _ _ _ _ _ _ _
   | exact ih3 _ _ _ _ _ _ _ _ _ _ _ _ _ _ _
   | exact graph_Next.mono _ _ _ _
   | exact meanderlaw09_shown.mono _
   | exact valid_Graph.mono _ _ _
   | exact LeO.none _
   | refine LeO.ite ?_ ?_
   | refine LeO.bind ?_ (fun _ => ?_)
theorem meanderlaw09_ValidRound_Rnd.mono : ∀ a0 a1 a2 a3 k, LeO (meanderlaw09_ValidRound_Rnd.f k a0 a1 a2 a3) (meanderlaw09_ValidRound_Rnd.f (k + 1) a0 a1 a2 a3) := by
 intro a0 a1 a2 a3 k
 obtain ⟨ih0, ih1, ih2, ih3⟩ := meanderlaw09_ValidRound_Rnd.mono_l k
 unfold meanderlaw09_ValidRound_Rnd.f
 repeat' first
   | (with_reducible exact ih0 _ _ _ _ _)
   | (with_reducible exact ih1 _ _ _ _ _ _ _ _ _ _ _ _ _ _)
   | (with_reducible exact ih2 _ _ _ _ _ _ _ _ _ _ _ _ _ _ _)
   | (with_reducible exact ih3 _ _ _ _ _ _ _ _ _ _ _ _ _ _ _)
   | (with_reducible exact graph_Next.mono _ _ _ _)
   | (with_reducible exact meanderlaw09_shown.mono _)
   | (with_reducible exact valid_Graph.mono _ _ _)
   | (with_reducible exact LeO.refl _)
   | (with_reducible exact LeO.none _)
   | (with_reducible refine LeO.ite ?_ ?_)
   | (with_reducible refine LeO.bind ?_ (fun _ => ?_))
   | exact ih0 _ _ _ _ _
   | exact ih1 _ _ _ _ _ _ _ _ _ _ _ _ _ _
   | exact ih2 _ _ _ _ _ _ _ _ _ _ _ _ _ _ _
   | exact ih3 _ _ _ _ _ _ _ _ _ _ _ _ _ _ _
   | exact graph_Next.mono _ _ _ _
   | exact meanderlaw09_shown.mono _
   | exact valid_Graph.mono _ _ _
   | exact LeO.none _
   | refine LeO.ite ?_ ?_
   | refine LeO.bind ?_ (fun _ => ?_)
end Go.Proofs.Ytjlnjlnecipllaa.PAll
