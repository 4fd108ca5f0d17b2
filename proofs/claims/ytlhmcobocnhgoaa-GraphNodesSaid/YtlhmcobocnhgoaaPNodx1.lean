-- Laid by hprint.py of this repo: the kit's printer, and contracts by hand beside it. Not trusted: Lean checks it.
import Derived.ChangeKeysEq
import Derived.Test.YtlhmcobocnhgoaaPNodx0
namespace Go.Proofs.Ytlhmcobocnhgoaa.PNod
open Go.RowKit Go.Proofs.YtlhmcobocnhgoaaW.PrintWords Go.Proofs.YtlhmcobocnhgoaaW.PrintLast Go.Proofs.YtlhmcobocnhgoaaW.PrintMore
attribute [local go_sem] max2_int min2_int max_two min_two max_three min_three max_four min_four   -- for this text's walks alone
set_option linter.unusedVariables false
set_option linter.unusedSimpArgs false

theorem eqi_cons {P : Program} {d : Nat} {e : TypeId} {c : Nat} {xs ys : Array Value} {i : Nat} {is : List Nat} {a b : Value} {r s : Bool} {w : World} (ha : (part e xs (i * c)).run P w = .ok a w) (hb : (part e ys (i * c)).run P w = .ok b w) (he : (Op.equalIn d e a b).run P w = .ok r w) (hr : (Op.eqItems d e c xs ys is).run P w = .ok s w) : (Op.eqItems d e c xs ys (i :: is)).run P w = .ok (r && s) w := by
  rw [Op.eqItems]
  simp only [Sem.run_bind, ha, hb, he, Result.andThen_ok]
  cases r
  · simp
  · simpa using hr
theorem eqi_nil {P : Program} {d : Nat} {e : TypeId} {c : Nat} {xs ys : Array Value} {w : World} : (Op.eqItems d e c xs ys []).run P w = .ok true w := by simp [Op.eqItems]
theorem eqA49 (d : Nat) (w : World) (x0 y0 : Int) (x1 y1 : Int) (x2 y2 : Int) :
    (Op.equalIn (d + 2) 49 (.agg #[.int .i64 x0, .int .i64 x1, .int .i64 x2]) (.agg #[.int .i64 y0, .int .i64 y1, .int .i64 y2])).run Try.prog w = .ok (x0 == y0 && (x1 == y1 && (x2 == y2))) w := by
  have h1 : Try.prog.cellsOf 3 = 1 := by kernel_rfl
  obtain ⟨i0, hi, _⟩ := info_parts info3
  rw [run_equalIn_array (P := Try.prog) w (d + 1) _ _ Try.underlying49 hi, h1]
  show (Op.eqItems (d + 1) 3 1 _ _ [0, 1, 2]).run Try.prog w = _
  have h := eqi_cons (P := Try.prog) (w := w) (d := d + 1) (e := 3) (c := 1) (xs := #[.int .i64 x0, .int .i64 x1, .int .i64 x2]) (ys := #[.int .i64 y0, .int .i64 y1, .int .i64 y2]) (i := 0) (a := .int .i64 x0) (b := .int .i64 y0) (r := x0 == y0) (by go_simp) (by go_simp) (by go_simp) (eqi_cons (i := 1) (a := .int .i64 x1) (b := .int .i64 y1) (r := x1 == y1) (by go_simp) (by go_simp) (by go_simp) (eqi_cons (i := 2) (a := .int .i64 x2) (b := .int .i64 y2) (r := x2 == y2) (by go_simp) (by go_simp) (by go_simp) eqi_nil))
  rwa [Bool.and_true] at h
theorem eqA51 (d : Nat) (w : World) (x0 y0 : Int) (x1 y1 : Int) (x2 y2 : Int) (x3 y3 : Int) (x4 y4 : Int) (x5 y5 : Int) (x6 y6 : Int) :
    (Op.equalIn (d + 3) 51 (.agg #[.int .i64 x0, .int .i64 x1, .int .i64 x2, .int .i64 x3, .int .i64 x4, .int .i64 x5, .int .i64 x6]) (.agg #[.int .i64 y0, .int .i64 y1, .int .i64 y2, .int .i64 y3, .int .i64 y4, .int .i64 y5, .int .i64 y6])).run Try.prog w = .ok (x0 == y0 && (x1 == y1 && (x2 == y2 && (x3 == y3 && ((x4 == y4 && (x5 == y5 && (x6 == y6)))))))) w := by
  refine eqA_of Try.underlying51 (by kernel_rfl) ?_
  refine eqf_cons (by rfl) (by go_simp; rfl) (by go_simp; rfl) (by go_simp) ?_
  refine eqf_cons (by rfl) (by go_simp; rfl) (by go_simp; rfl) (by go_simp) ?_
  refine eqf_cons (by rfl) (by go_simp; rfl) (by go_simp; rfl) (by go_simp) ?_
  refine eqf_cons (by rfl) (by go_simp; rfl) (by go_simp; rfl) (by go_simp) ?_
  exact eqf_last (by rfl) (by go_simp) (by go_simp) (eqA49 (d + 0) w _ _ _ _ _ _)
end Go.Proofs.Ytlhmcobocnhgoaa.PNod
