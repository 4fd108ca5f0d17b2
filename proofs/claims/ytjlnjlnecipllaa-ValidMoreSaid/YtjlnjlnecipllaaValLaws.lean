/- Plain lemmas on graphs that are accepted: their edges turned round, a node out of bounds. No program in sight. -/
import Derived.Test.YtjlnjlnecipllaaValGraph
import Derived.Test.YtjlnjlnecipllaaValFew
namespace Go.Proofs.Ytjlnjlnecipllaa.Pure
open Go.RowKit Go.Proofs.Ytjlnjlnecipllaa.PAll Go.Proofs.YtjlnjlnecipllaaW.PrintWords Go.Proofs.YtjlnjlnecipllaaW.PrintLast Go.Proofs.YtjlnjlnecipllaaW.PrintMore
set_option linter.unusedVariables false
set_option linter.unusedSimpArgs false

theorem way_mono {E E' : List (Int × Int)} {ok ok' : Int → Prop} {v b : Int} (hE : ∀ e ∈ E, e ∈ E') (hok : ∀ x, ok x → ok' x) (h : Way E ok v b) : Way E' ok' v b := by
  induction h with
  | one e k => exact .one (hE _ e) (hok _ k)
  | step _ e k ih => exact .step ih (hE _ e) (hok _ k)
section
variable {ns : List S23} {es : List S36}
theorem prev_reverse (a b : Int) : prevS es.reverse a b = (prevS es a b).reverse := by
  unfold prevS
  rw [List.filter_reverse, List.map_reverse]
theorem accept_reverse (h : Accept ns es) : Accept ns es.reverse where
  size := by have := h.size; unfold SizeP at *; rw [List.length_reverse]; exact this
  nodes := h.nodes
  edges := fun e he => h.edges e (List.mem_reverse.1 he)
  depths := fun e he => h.depths e (List.mem_reverse.1 he)
  ports := fun l hl hp => by rw [prev_reverse, List.length_reverse]; exact h.ports l hl hp
  routes := fun l hl hp k => by
    have h1 := h.ports l hl hp
    have h2 := h.routes l hl hp k
    obtain ⟨x, hx⟩ := List.length_eq_one_iff.1 h1
    rw [prev_reverse, hx]
    rw [hx] at h2
    exact h2
  cycles := fun v hv k hr => h.cycles v hv k (way_mono (fun e he => by unfold pairs at *; rw [List.map_reverse] at he; exact List.mem_reverse.1 he) (fun x hx => hx) hr)
theorem bad_node (h : Accept ns es) (i : Nat) (hi : i < ns.length) (n : S23) (hn : ¬ nodeP n.f0 n.f1 n.f2 n.f3) : graphS (ns.set i n) es = 10 := by
  unfold graphS
  rw [if_neg (not_not_intro (by have := h.size; unfold SizeP at *; rw [List.length_set]; exact this)), if_pos]
  intro hN
  exact hn (hN n (List.mem_iff_getElem.2 ⟨i, by simp [hi], by simp⟩))
theorem kind_twelve (a b d : Int) : ¬ nodeP 12 a b d := fun h => by
  have := h.2.2
  unfold kindP at this
  simp at this
theorem depth_four (k a b : Int) : ¬ nodeP k a b 4 := fun h => by have := h.2.1; omega
theorem a_big (k b d : Int) : ¬ nodeP k 5000 b d := fun h => by
  have := h.2.2
  unfold kindP at this
  repeat' split at this
  all_goals omega
theorem b_big (k a d : Int) : ¬ nodeP k a 5000 d := fun h => by
  have := h.2.2
  unfold kindP at this
  repeat' split at this
  all_goals omega
end
end Go.Proofs.Ytjlnjlnecipllaa.Pure
