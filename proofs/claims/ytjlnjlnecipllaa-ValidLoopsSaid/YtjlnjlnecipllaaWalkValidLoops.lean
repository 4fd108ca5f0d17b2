/- ValidLoops: a loop that does not end in a Feedback is refused. Conditions: none. -/
import Derived.Test.YtjlnjlnecipllaaGOpen
import Derived.Test.YtjlnjlnecipllaaGra
import Derived.Test.YtjlnjlnecipllaaPAllLop
namespace Go.Proofs.Ytjlnjlnecipllaa.Hand
open Go.RowKit Go.Proofs.YtjlnjlnecipllaaW.PrintWords Go.Proofs.YtjlnjlnecipllaaW.PrintLast Go.Proofs.YtjlnjlnecipllaaW.PrintMore Go.Proofs.Ytjlnjlnecipllaa.PAll Go.Proofs.Ytjlnjlnecipllaa.Pure
set_option linter.unusedVariables false
theorem and_three (a : Int) : Go.bits .and .i64 a 3 = 0 ∨ Go.bits .and .i64 a 3 = 1 ∨ Go.bits .and .i64 a 3 = 2 ∨ Go.bits .and .i64 a 3 = 3 := by
  have hx : (BitVec.ofInt 64 a &&& BitVec.ofInt 64 3).toNat ≤ 3 := by
    rw [BitVec.toNat_and]
    exact Nat.le_trans Nat.and_le_right (by decide)
  have e : Go.bits .and .i64 a 3 = IntKind.i64.wrap ((BitVec.ofInt 64 a &&& BitVec.ofInt 64 3).toNat : Int) := rfl
  rw [e, IntKind.wrap_i64]
  omega
theorem loops_s (a : Int) (b : Bool) : Ev (fun k => meanderlaw09_ValidLoops_Lop.f k a b) true := by
  refine Ev.of (fun k => meanderlaw09_ValidLoops_Lop.mono a b k) (k := 60) ?_
  unfold meanderlaw09_ValidLoops_Lop.f
  rcases and_three a with h | h | h | h <;> rw [h] <;> cases b <;> decide +kernel
theorem loops_walk {W : World} (a : Int) (wa : (Lit.int .i64 a).wf = true) (b : Bool) : Calls Try.prog 6 #[.int .i64 a, .bool b] W fun e w' => e = .returned (.bool true) ∧ Below W.heap.size W w' := by
  obtain ⟨k, hk⟩ := (loops_s a b).rounds
  exact meanderlaw09_ValidLoops_Lop.calls k a b true W hk
end Go.Proofs.Ytjlnjlnecipllaa.Hand
