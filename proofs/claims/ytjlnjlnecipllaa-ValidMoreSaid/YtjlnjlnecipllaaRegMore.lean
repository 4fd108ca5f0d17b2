/- The regions of ValidMore that draw their order and append: whatever the order, what they leave behind. -/
import Derived.Test.YtjlnjlnecipllaaRegInv
import Derived.Test.YtjlnjlnecipllaaPAllx0
import Derived.Test.YtjlnjlnecipllaaWTab
import Derived.Test.YtjlnjlnecipllaaWRepsOne
import Derived.Test.YtjlnjlnecipllaaProg
import Derived.RegionTactic
namespace Go.Proofs.Ytjlnjlnecipllaa.Hand
open Go Go.RowKit Go.Proofs.Ytjlnjlnecipllaa.PAll Go.Proofs.YtjlnjlnecipllaaW.PrintWords Go.Proofs.YtjlnjlnecipllaaW.PrintLast Go.Proofs.YtjlnjlnecipllaaW.PrintMore
set_option linter.unusedVariables false
set_option linter.unusedSimpArgs false
def FN (w : World) (r : Nat) (col : Nat → Nat) (c : Nat) (v : Value) (xs : List S23) : Prop := k23.R 23 w r (fun k => col k = c) v xs
def FE (w : World) (r : Nat) (col : Nat → Nat) (c : Nat) (v : Value) (xs : List S36) : Prop := k36.R 36 w r (fun k => col k = c) v xs
def FB (w : World) (r : Nat) (col : Nat → Nat) (c : Nat) (v : Value) : Prop := ∃ b, v = .pointer (some ⟨b, 0, none⟩) ∧ col b = c ∧ r ≤ b ∧ w.heap[b]? = some (.cells #[.slice none 0 0, .slice none 0 0] 29 (0, 0))
/-- Blocks that come up get the color ci; none but those of the color ci are turned. -/
structure Mv (w w1 : World) (col col1 : Nat → Nat) (ci : Nat) : Prop where
  old : ∀ k, k < w.heap.size → col1 k = col k
  same : ∀ k, k < w.heap.size → col k ≠ ci → w1.heap[k]? = w.heap[k]?
def ncol (w : World) (col : Nat → Nat) (ci : Nat) : Nat → Nat := fun k => if k < w.heap.size then col k else ci
theorem FN.mv {w w1 : World} {r : Nat} {col col1 : Nat → Nat} {c ci : Nat} {v : Value} {xs : List S23} (h : FN w r col c v xs) (m : Mv w w1 col col1 ci) (hne : c ≠ ci) : FN w1 r col1 c v xs :=
  Kd.R_mono (Kd.R_move (Kd.R_bound h) (fun k hk => m.same k hk.2.2.1 (by rw [hk.1]; exact hne))) (fun k hk => (m.old k hk.2.2.1).trans hk.1)
theorem FE.mv {w w1 : World} {r : Nat} {col col1 : Nat → Nat} {c ci : Nat} {v : Value} {xs : List S36} (h : FE w r col c v xs) (m : Mv w w1 col col1 ci) (hne : c ≠ ci) : FE w1 r col1 c v xs :=
  Kd.R_mono (Kd.R_move (Kd.R_bound h) (fun k hk => m.same k hk.2.2.1 (by rw [hk.1]; exact hne))) (fun k hk => (m.old k hk.2.2.1).trans hk.1)
theorem FB.mv {w w1 : World} {r : Nat} {col col1 : Nat → Nat} {c ci : Nat} {v : Value} (h : FB w r col c v) (m : Mv w w1 col col1 ci) (hne : c ≠ ci) : FB w1 r col1 c v := by
  obtain ⟨b, e, hc, hr, hb⟩ := h
  have hlt := blk_lt hb
  exact ⟨b, e, (m.old b hlt).trans hc, hr, (m.same b hlt (by rw [hc]; exact hne)).trans hb⟩
theorem mv_none {w w1 : World} (col : Nat → Nat) (ci : Nat) (hg : w.grownBy w1 none) : Mv w w1 col (ncol w col ci) ci :=
  ⟨fun k hk => if_pos hk, fun k hk _ => hg.block k hk (by simp)⟩
theorem mv_below {w w1 : World} (col : Nat → Nat) (ci : Nat) (hb : Below w.heap.size w w1) : Mv w w1 col (ncol w col ci) ci :=
  ⟨fun k hk => if_pos hk, fun k hk _ => hb.block k hk⟩
theorem mv_own {w w1 : World} (col : Nat → Nat) (ci : Nat) {v : Value} (hv : ∀ k, v.ownBlock = some k → col k = ci) (hg : w.grownBy w1 v.ownBlock) : Mv w w1 col (ncol w col ci) ci :=
  ⟨fun k hk => if_pos hk, fun k hk hc => hg.block k hk (fun e => hc (hv k e.symm))⟩
theorem mv_refl (w : World) (col : Nat → Nat) (ci : Nat) : Mv w w col col ci := ⟨fun _ _ => rfl, fun _ _ _ => rfl⟩
theorem below_of {r : Nat} {w0 w : World} (h : Below r w0 w) : Below r w0 w := h
theorem FN.mk' {w w1 : World} {r : Nat} {col : Nat → Nat} {c : Nat} {v : Value} {xs : List S23} (h : k23.R 23 w1 r (fun k => k < w.heap.size → col k = c) v xs) : FN w1 r (ncol w col c) c v xs :=
  Kd.R_mono h (fun k hk => by unfold ncol; split; exact hk ‹_›; rfl)
theorem FE.mk' {w w1 : World} {r : Nat} {col : Nat → Nat} {c : Nat} {v : Value} {xs : List S36} (h : k36.R 36 w1 r (fun k => k < w.heap.size → col k = c) v xs) : FE w1 r (ncol w col c) c v xs :=
  Kd.R_mono h (fun k hk => by unfold ncol; split; exact hk ‹_›; rfl)
theorem nM {W : World} {r : Nat} {ok : Nat → Prop} : ∀ (x : S23) (cs : List Value), k23.K W x cs → k23.M W r ok x cs := fun x cs h => by
  rw [k23_open h]; exact k23_mkM _ _ _ x
theorem eM {W : World} {r : Nat} {ok : Nat → Prop} : ∀ (x : S36) (cs : List Value), k36.K W x cs → k36.M W r ok x cs := fun x cs h => by
  rw [k36_open h]; exact k36_mkM _ _ _ x
/-- A row laid down (all of its cells). -/
theorem lay_ {ops : Array Oper} {o : Oper} {a : Act} {Q : Exit → Act → World → Prop} {Kc : Act → World → Prop} {W w0 : World} {α : Type} (d : Kd α) (r e : Nat) (col : Nat → Nat) (ci : Nat) {N : Tmp} (hd : o.dst = some N) (hw : Region.wanted o (yielded ops a.tmps) = true) {xs : List α} {inner : List Value}
    (hrun : (execOp a.eval o).run Try.prog W = .ok (.value (.slice (some ⟨W.heap.size, 0, none⟩) xs.length xs.length)) (W.alloc (.cells inner.toArray e)))
    (hrep : Reps (d.M W r (fun _ => False)) d.sz xs inner) (HB : Below r w0 W) (hbase : r ≤ W.heap.size) (hm : xs.length ≤ 9223372036854775807)
    (h : ∀ v1 w1, d.R e w1 r (fun k => k < W.heap.size → col k = ci) v1 xs → Below r w0 w1 → Mv W w1 col (ncol W col ci) ci → Kc (a.put o.dst v1) w1) : if Region.wanted o (yielded ops a.tmps) = true then Oper.wp Try.prog o a W Kc Q else Kc (a.put o.dst undef) W :=
  Kd.R_lit_step d (w0 := w0) (ok := fun k => k < W.heap.size → col k = ci) (okp := fun _ => False) r e hw hd hrun hrep (fun _ hk => hk.elim) (fun hk => absurd hk (Nat.lt_irrefl _)) HB hbase hm (fun v1 w1 hr hb hg _ => h v1 w1 hr hb (mv_none col ci hg))
/-- A row appended to a row of one's own. -/
theorem app_ {ops : Array Oper} {o : Oper} {a : Act} {Q : Exit → Act → World → Prop} {Kc : Act → World → Prop} {W w0 : World} {α : Type} (d : Kd α) (r : Nat) (col : Nat → Nat) (ci : Nat) (hw : Region.wanted o (yielded ops a.tmps) = true) (s x : Operand) (t e : TypeId) (z : Value) (bytes : Nat)
    (ho : o.op = .call { callee := .builtin .append, args := #[s, x], argTypes := #[t, t] })
    (ht : Try.prog.underlying t = some (.slice e)) (hinfo : (Try.prog.info? e).map (fun i => (i.zero, i.size, i.bytes)) = some (some z, d.sz, bytes)) (hz : z.cells.size = d.sz) (hs0 : 0 < d.sz) (hb0 : 0 < bytes)
    (v : Value) (xs ys : List α) (A : Option Addr) (m c : Nat) (hs : a.eval s = v) (hx : a.eval x = .slice A m c)
    (HO : d.R e W r (fun k => col k = ci) v xs) (HR : d.C W A m ys) (hKM : ∀ x cs, d.K W x cs → d.M W r (fun _ => False) x cs) (HB : Below r w0 W) (hbase : r ≤ W.heap.size) (hl : (xs.length + m) * bytes ≤ 140737488355328)
    (h : ∀ v1 w1, d.R e w1 r (fun k => k < W.heap.size → col k = ci) v1 (xs ++ ys) → Below r w0 w1 → Mv W w1 col (ncol W col ci) ci → Kc (a.put o.dst v1) w1) : if Region.wanted o (yielded ops a.tmps) = true then Oper.wp Try.prog o a W Kc Q else Kc (a.put o.dst undef) W :=
  Kd.R_append_rows_step d (Rr := d.K W) (w0 := w0) r hw s x t e z bytes ho ht hinfo hz hs0 hb0 v xs ys A m c (fun k => k < W.heap.size → col k = ci) (fun _ => False) hs hx (Kd.R_mono HO (fun k hk _ => hk)) HR hKM (fun _ hk => hk.elim) (fun k hk hlt => absurd hlt (by omega)) HB hbase hl
    (fun v1 w1 hr hb hg _ => h v1 w1 hr hb (mv_own col ci (fun k hk => HO.1 k hk) hg))
section
variable {P : Program} {ops : Array Oper} {Q : Exit → Act → World → Prop} {md : Region.Mode} {S : World → Prop} {ds : List Nat} {oi : Oper} {v : Value} {fuel : Nat} {l : Array Bool} {a a' : Act} {w : World}
/-- A pure operation taken first, with its usual proof. -/
theorem pv_ (l' : Array Bool) (i : Nat) (n : Tmp) (h : wpAnyLast P md ops Q S ds fuel l' a' w)
    (hc : anyB md ops l l' i = true := by kernel_rfl) (hi : ops[i]? = some oi := by exact rfl) (hN : oi.dst = some n := by exact rfl) (hQ : ∀ c a w, Q (.panic c) (a.put oi.dst v) w → Q (.panic c) a w := by exact fun _ _ _ h => h)
    (hy : Yields P ops oi v a := by refine Or.inl ⟨by rfl, ?_⟩; intro w'; go_simp; with_reducible rfl) (ha : a.put (some n) v = a' := by simp only [Act.put, List.setIfInBounds_toArray, List.set_cons_zero, List.set_cons_succ, i64_w, i32_w]; rfl) : wpAnyLast P md ops Q S ds (fuel + 1) l a w := pure_ l' hi hN hc hQ hy ha h
/-- A load taken first. -/
theorem tv_ (l' : Array Bool) (hS : S w) (i : Nat) (n : Tmp) (h : wpAnyLast P md ops Q S ds fuel l' a' w)
    (hc : takeB md ops ds l l' i = true := by kernel_rfl) (hi : ops[i]? = some oi := by exact rfl) (hN : oi.dst = some n := by exact rfl) (hQ : ∀ c a w, Q (.panic c) (a.put oi.dst v) w → Q (.panic c) a w := by exact fun _ _ _ h => h)
    (hy : YieldsIf P ops S oi v a := by refine Or.inl ⟨by rfl, ?_⟩; intro w' hs_; (repeat (have s_ := And.left hs_; replace hs_ := And.right hs_)); go_simp; with_reducible rfl) (ha : a.put (some n) v = a' := by simp only [Act.put, List.setIfInBounds_toArray, List.set_cons_zero, List.set_cons_succ, i64_w, i32_w]; rfl) : wpAnyLast P md ops Q S ds (fuel + 1) l a w := take_ l' hi hN hc hQ hy hS ha h
end

structure reg6Inv (w0 : World) (r : Nat) (ns : List S23) (es : List S36) (x1 : Int) (L : Nat → Bool) (w : World) (vs : Nat → Value) (col : Nat → Nat) : Prop where
  below : Below r w0 w
  c3 : L 3 = true → L 0 = true
  c6 : L 6 = true → L 3 = true ∧ L 5 = true
  c10 : L 10 = true → L 7 = true
  c17 : L 17 = true → L 10 = true ∧ L 16 = true
  c18 : L 18 = true → L 6 = true ∧ L 17 = true
  f0 : L 0 = true → L 3 = false → FN w r col 0 (vs 0) []
  f3 : L 3 = true → L 6 = false → FN w r col 0 (vs 3) ns
  f5 : L 5 = true → L 6 = false → FN w r col 1 (vs 5) [(⟨11, 0, 0, 0⟩ : S23)]
  f6 : L 6 = true → FN w r col 0 (vs 6) (ns ++ [(⟨11, 0, 0, 0⟩ : S23)])
  f7 : L 7 = true → L 10 = false → FE w r col 2 (vs 7) []
  f10 : L 10 = true → L 17 = false → FE w r col 2 (vs 10) es
  f16 : L 16 = true → L 17 = false → FE w r col 3 (vs 16) [(⟨x1, (ns.length : Int), 0⟩ : S36)]
  f17 : L 17 = true → FE w r col 2 (vs 17) (es ++ [(⟨x1, (ns.length : Int), 0⟩ : S36)])
  fb : L 19 = true → FB w r col 4 (vs 19)
  fa : L 18 = true → vs 18 = .agg #[vs 6, vs 17]
set_option maxHeartbeats 1600000 in
set_option maxRecDepth 100000 in
theorem reg6_store {a : Act} {w : World} {b : Nat} {B0 B1 : Option Addr} {n0 n1 k0 k1 : Nat} (e1 : a.tmps[8]?.getD undef = .pointer (some ⟨b, 0, none⟩)) (e2 : a.tmps[75]?.getD undef = .agg #[.slice B0 n0 k0, .slice B1 n1 k1]) (c0 : w.cell? ⟨b, 0, none⟩ = some (.slice none 0 0)) (c1 : w.cell? ⟨b, 1, none⟩ = some (.slice none 0 0)) (z0 : w.frozen? ⟨b, 0, none⟩ = false) (z1 : w.frozen? ⟨b, 1, none⟩ = false) {o : Oper} (ho : (opsOf Try.f5 6)[20]? = some o) :
    (execOp a.eval o).run Try.prog w = .ok .skip ((w.setCell ⟨b, 0, none⟩ (.slice B0 n0 k0)).setCell ⟨b, 1, none⟩ (.slice B1 n1 k1)) := by
  conv at ho => lhs; whnf; arg 1; whnf
  obtain rfl := Option.some.inj ho
  have hu := Try.underlying29
  first | (go_simp; done) | (go_simp; rfl)
set_option maxHeartbeats 6400000 in
set_option maxRecDepth 100000 in
theorem reg6 {Q : Exit → Act → World → Prop} {S : World → Prop} {fuel : Nat} {a0 : Act} {w0 : World} (ns : List S23) (es : List S36) (x1 : Int) {A0 A1 : Option Addr} {c0 c1 : Nat} (hfuel : 11 ≤ fuel) (hsz : a0.tmps.size = 135) (s59 : a0.tmps.getD 59 undef = .slice A0 ns.length c0) (s61 : a0.tmps.getD 61 undef = .agg #[.int .i64 11, .int .i64 0, .int .i64 0, .int .i64 0]) (s66 : a0.tmps.getD 66 undef = .slice A1 es.length c1) (s72 : a0.tmps.getD 72 undef = .agg #[.int .i64 x1, .int .i64 (ns.length : Int), .int .i64 0]) (hC0 : k23.C w0 A0 ns.length ns) (hC1 : k36.C w0 A1 es.length es) (hlN : ns.length < 4398046511104) (hlE : es.length < 5864062014805) (hS : ∀ w1, Below w0.heap.size w0 w1 → S w1)
    (hfin : ∀ (vs : Nat → Value) (b : Nat) (w2 : World), vs 19 = .pointer (some ⟨b, 0, none⟩) → vs 18 = .agg #[vs 6, vs 17] → k23.R 23 w2 w0.heap.size (fun _ => True) (vs 6) (ns ++ [(⟨11, 0, 0, 0⟩ : S23)]) → k36.R 36 w2 w0.heap.size (fun _ => True) (vs 17) (es ++ [(⟨x1, (ns.length : Int), 0⟩ : S36)]) → w2.heap[b]? = some (.cells #[vs 6, vs 17] 29 (0, 0)) → w0.heap.size ≤ b → Below w0.heap.size w0 w2 → ∀ a' : Act, a' = puts (opsOf Try.f5 6) vs [0, 3, 5, 6, 7, 10, 16, 17, 18, 19] a0 → Q .normal a' w2) :
    wpAnyLast Try.prog .any (opsOf Try.f5 6) Q S [20] fuel #[false, true, true, false, true, false, false, false, true, true, false, true, true, true, true, true, false, false, false, false, false] a0 w0 := by
  have hok : okOps (opsOf Try.f5 6) a0.tmps.size = true := by rw [hsz]; kernel_rfl
  refine inv_ 20 (by kernel_rfl) (by kernel_rfl) (by kernel_rfl) (Nat.le_trans (by decide) hfuel) hok (by kernel_rfl) rfl (fun L w vs => ∃ col, reg6Inv w0 w0.heap.size ns es x1 L w vs col) (fun L w vs h => ?_) ?_ ?_ ?_
  · obtain ⟨col, inv⟩ := h; exact hS w inv.below
  · exact ⟨fun _ => 0, Below.refl _ _, (fun h => by cases h), (fun h => by cases h), (fun h => by cases h), (fun h => by cases h), (fun h => by cases h), (fun h _ => by cases h), (fun h _ => by cases h), (fun h _ => by cases h), (fun h => by cases h), (fun h _ => by cases h), (fun h _ => by cases h), (fun h _ => by cases h), (fun h => by cases h), (fun h => by cases h), (fun h => by cases h)⟩
  · intro i o L vs a w hi ho hl hL hLl hdeps hD hI
    obtain ⟨col, inv⟩ := hI
    have hle : w0.heap.size ≤ w.heap.size := inv.below.size
    have o59 : a.tmps.getD 59 undef = .slice A0 ns.length c0 := (Done.old (j0 := 2) hok hD hLl rfl rfl (by decide)).trans s59
    have o61 : a.tmps.getD 61 undef = .agg #[.int .i64 11, .int .i64 0, .int .i64 0, .int .i64 0] := (Done.old (j0 := 4) hok hD hLl rfl rfl (by decide)).trans s61
    have o66 : a.tmps.getD 66 undef = .slice A1 es.length c1 := (Done.old (j0 := 9) hok hD hLl rfl rfl (by decide)).trans s66
    have o72 : a.tmps.getD 72 undef = .agg #[.int .i64 x1, .int .i64 (ns.length : Int), .int .i64 0] := (Done.old (j0 := 15) hok hD hLl rfl rfl (by decide)).trans s72
    have hi' := (by decide : ∀ i, i < 20 → (#[false, true, true, false, true, false, false, false, true, true, false, true, true, true, true, true, false, false, false, false, false] : Array Bool).getD i false = false → i = 0 ∨ i = 3 ∨ i = 5 ∨ i = 6 ∨ i = 7 ∨ i = 10 ∨ i = 16 ∨ i = 17 ∨ i = 18 ∨ i = 19) i hi hl
    rcases hi' with rfl | rfl | rfl | rfl | rfl | rfl | rfl | rfl | rfl | rfl
    · have ho0 := ho
      conv at ho => lhs; whnf; arg 1; whnf
      obtain rfl := Option.some.inj ho
      refine wpOp_step ho0 (fun K' hK => lay_ k23 (w0 := w0) w0.heap.size 23 col 0 (N := 57) rfl (by rfl) (xs := ([] : List S23)) (inner := []) ?_ (Reps.none _ _) inv.below hle (by simp) (fun v1 w1 hr hb mv => hK _ _ ⟨v1, rfl, _, ⟨hb, (fun h => rfl), inv.c6, inv.c10, inv.c17, inv.c18, (fun _ _ => FN.mk' hr), (fun h1 h2 => (Bool.false_ne_true (hL.symm.trans (inv.c3 h1))).elim), (fun h1 h2 => (inv.f5 h1 h2).mv mv (by decide)), (fun h1 => (Bool.false_ne_true (hL.symm.trans (inv.c3 (inv.c6 h1).1))).elim), (fun h1 h2 => (inv.f7 h1 h2).mv mv (by decide)), (fun h1 h2 => (inv.f10 h1 h2).mv mv (by decide)), (fun h1 h2 => (inv.f16 h1 h2).mv mv (by decide)), (fun h1 => (inv.f17 h1).mv mv (by decide)), (fun h => (inv.fb h).mv mv (by decide)), inv.fa⟩⟩))
      first | (go_simp; done) | (go_simp; rfl)
    · have ho0 := ho
      conv at ho => lhs; whnf; arg 1; whnf
      obtain rfl := Option.some.inj ho
      have d0 : L 0 = true := (hdeps ⟨0, .data⟩ (by simp) rfl).resolve_left (by decide)
      have e57 : a.tmps.getD 57 undef = vs 0 := hD.own 0 _ 57 rfl rfl d0
      have hC := Kd.C_below hC0 (below_of inv.below)
      refine wpOp_step ho0 (fun K' hK => app_ k23 (w0 := w0) w0.heap.size col 0 (by rfl) (.tmp 57) (.tmp 59) 26 23 (.agg #[(.int .i64 0), (.int .i64 0), (.int .i64 0), (.int .i64 0)]) 32 rfl Try.underlying26 info23 rfl (by decide) (by decide) _ [] ns _ _ _ e57 o59 (inv.f0 d0 hL) hC nM inv.below hle (by have := hlN; simp only [List.length_nil]; omega) (fun v1 w1 hr hb mv => hK _ _ ⟨v1, rfl, _, ⟨hb, (fun _ => d0), (fun h => ⟨rfl, (inv.c6 h).2⟩), inv.c10, inv.c17, inv.c18, (fun _ h => by cases h), (fun _ _ => FN.mk' hr), (fun h1 h2 => (inv.f5 h1 h2).mv mv (by decide)), (fun h1 => (Bool.false_ne_true (hL.symm.trans (inv.c6 h1).1)).elim), (fun h1 h2 => (inv.f7 h1 h2).mv mv (by decide)), (fun h1 h2 => (inv.f10 h1 h2).mv mv (by decide)), (fun h1 h2 => (inv.f16 h1 h2).mv mv (by decide)), (fun h1 => (inv.f17 h1).mv mv (by decide)), (fun h => (inv.fb h).mv mv (by decide)), inv.fa⟩⟩))
    · have ho0 := ho
      conv at ho => lhs; whnf; arg 1; whnf
      obtain rfl := Option.some.inj ho
      refine wpOp_step ho0 (fun K' hK => lay_ k23 (w0 := w0) w0.heap.size 23 col 1 (N := 62) rfl (by rfl) (xs := ([(⟨11, 0, 0, 0⟩ : S23)] : List S23)) (inner := [.int .i64 11, .int .i64 0, .int .i64 0, .int .i64 0]) ?_ (Reps.c4 (k23_mkM _ _ _ _) (Reps.none _ _)) inv.below hle (by simp) (fun v1 w1 hr hb mv => hK _ _ ⟨v1, rfl, _, ⟨hb, inv.c3, (fun h => ⟨(inv.c6 h).1, rfl⟩), inv.c10, inv.c17, inv.c18, (fun h1 h2 => (inv.f0 h1 h2).mv mv (by decide)), (fun h1 h2 => (inv.f3 h1 h2).mv mv (by decide)), (fun _ _ => FN.mk' hr), (fun h1 => (inv.f6 h1).mv mv (by decide)), (fun h1 h2 => (inv.f7 h1 h2).mv mv (by decide)), (fun h1 h2 => (inv.f10 h1 h2).mv mv (by decide)), (fun h1 h2 => (inv.f16 h1 h2).mv mv (by decide)), (fun h1 => (inv.f17 h1).mv mv (by decide)), (fun h => (inv.fb h).mv mv (by decide)), inv.fa⟩⟩))
      rw [Array.getD_eq_getD_getElem?] at o61
      first | (go_simp; done) | (go_simp; rfl)
    · have ho0 := ho
      conv at ho => lhs; whnf; arg 1; whnf
      obtain rfl := Option.some.inj ho
      have d3 : L 3 = true := (hdeps ⟨3, .data⟩ (by simp) rfl).resolve_left (by decide)
      have e60 : a.tmps.getD 60 undef = vs 3 := hD.own 3 _ 60 rfl rfl d3
      have d5 : L 5 = true := (hdeps ⟨5, .data⟩ (by simp) rfl).resolve_left (by decide)
      have e62 : a.tmps.getD 62 undef = vs 5 := hD.own 5 _ 62 rfl rfl d5
      obtain ⟨A_, c_, ev_, hle_, hC⟩ := Kd.R_reads (inv.f5 d5 hL)
      refine wpOp_step ho0 (fun K' hK => app_ k23 (w0 := w0) w0.heap.size col 0 (by rfl) (.tmp 60) (.tmp 62) 26 23 (.agg #[(.int .i64 0), (.int .i64 0), (.int .i64 0), (.int .i64 0)]) 32 rfl Try.underlying26 info23 rfl (by decide) (by decide) _ ns [(⟨11, 0, 0, 0⟩ : S23)] _ _ _ e60 (e62.trans ev_) (inv.f3 d3 hL) hC nM inv.below hle (by have := hlN; simp only [List.length_singleton]; omega) (fun v1 w1 hr hb mv => hK _ _ ⟨v1, rfl, _, ⟨hb, inv.c3, (fun _ => ⟨d3, d5⟩), inv.c10, inv.c17, (fun h => ⟨rfl, (inv.c18 h).2⟩), (fun h1 h2 => (Bool.false_ne_true (h2.symm.trans d3)).elim), (fun _ h => by cases h), (fun _ h => by cases h), (fun _ => FN.mk' hr), (fun h1 h2 => (inv.f7 h1 h2).mv mv (by decide)), (fun h1 h2 => (inv.f10 h1 h2).mv mv (by decide)), (fun h1 h2 => (inv.f16 h1 h2).mv mv (by decide)), (fun h1 => (inv.f17 h1).mv mv (by decide)), (fun h => (inv.fb h).mv mv (by decide)), (fun h => (Bool.false_ne_true (hL.symm.trans (inv.c18 h).1)).elim)⟩⟩))
    · have ho0 := ho
      conv at ho => lhs; whnf; arg 1; whnf
      obtain rfl := Option.some.inj ho
      refine wpOp_step ho0 (fun K' hK => lay_ k36 (w0 := w0) w0.heap.size 36 col 2 (N := 64) rfl (by rfl) (xs := ([] : List S36)) (inner := []) ?_ (Reps.none _ _) inv.below hle (by simp) (fun v1 w1 hr hb mv => hK _ _ ⟨v1, rfl, _, ⟨hb, inv.c3, inv.c6, (fun h => rfl), inv.c17, inv.c18, (fun h1 h2 => (inv.f0 h1 h2).mv mv (by decide)), (fun h1 h2 => (inv.f3 h1 h2).mv mv (by decide)), (fun h1 h2 => (inv.f5 h1 h2).mv mv (by decide)), (fun h1 => (inv.f6 h1).mv mv (by decide)), (fun _ _ => FE.mk' hr), (fun h1 h2 => (Bool.false_ne_true (hL.symm.trans (inv.c10 h1))).elim), (fun h1 h2 => (inv.f16 h1 h2).mv mv (by decide)), (fun h1 => (Bool.false_ne_true (hL.symm.trans (inv.c10 (inv.c17 h1).1))).elim), (fun h => (inv.fb h).mv mv (by decide)), inv.fa⟩⟩))
      first | (go_simp; done) | (go_simp; rfl)
    · have ho0 := ho
      conv at ho => lhs; whnf; arg 1; whnf
      obtain rfl := Option.some.inj ho
      have d7 : L 7 = true := (hdeps ⟨7, .data⟩ (by simp) rfl).resolve_left (by decide)
      have e64 : a.tmps.getD 64 undef = vs 7 := hD.own 7 _ 64 rfl rfl d7
      have hC := Kd.C_below hC1 (below_of inv.below)
      refine wpOp_step ho0 (fun K' hK => app_ k36 (w0 := w0) w0.heap.size col 2 (by rfl) (.tmp 64) (.tmp 66) 27 36 (.agg #[(.int .i64 0), (.int .i64 0), (.int .i64 0)]) 24 rfl Try.underlying27 info36 rfl (by decide) (by decide) _ [] es _ _ _ e64 o66 (inv.f7 d7 hL) hC eM inv.below hle (by have := hlE; simp only [List.length_nil]; omega) (fun v1 w1 hr hb mv => hK _ _ ⟨v1, rfl, _, ⟨hb, inv.c3, inv.c6, (fun _ => d7), (fun h => ⟨rfl, (inv.c17 h).2⟩), inv.c18, (fun h1 h2 => (inv.f0 h1 h2).mv mv (by decide)), (fun h1 h2 => (inv.f3 h1 h2).mv mv (by decide)), (fun h1 h2 => (inv.f5 h1 h2).mv mv (by decide)), (fun h1 => (inv.f6 h1).mv mv (by decide)), (fun _ h => by cases h), (fun _ _ => FE.mk' hr), (fun h1 h2 => (inv.f16 h1 h2).mv mv (by decide)), (fun h1 => (Bool.false_ne_true (hL.symm.trans (inv.c17 h1).1)).elim), (fun h => (inv.fb h).mv mv (by decide)), inv.fa⟩⟩))
    · have ho0 := ho
      conv at ho => lhs; whnf; arg 1; whnf
      obtain rfl := Option.some.inj ho
      refine wpOp_step ho0 (fun K' hK => lay_ k36 (w0 := w0) w0.heap.size 36 col 3 (N := 73) rfl (by rfl) (xs := ([(⟨x1, (ns.length : Int), 0⟩ : S36)] : List S36)) (inner := [.int .i64 x1, .int .i64 (ns.length : Int), .int .i64 0]) ?_ (Reps.c3 (k36_mkM _ _ _ _) (Reps.none _ _)) inv.below hle (by simp) (fun v1 w1 hr hb mv => hK _ _ ⟨v1, rfl, _, ⟨hb, inv.c3, inv.c6, inv.c10, (fun h => ⟨(inv.c17 h).1, rfl⟩), inv.c18, (fun h1 h2 => (inv.f0 h1 h2).mv mv (by decide)), (fun h1 h2 => (inv.f3 h1 h2).mv mv (by decide)), (fun h1 h2 => (inv.f5 h1 h2).mv mv (by decide)), (fun h1 => (inv.f6 h1).mv mv (by decide)), (fun h1 h2 => (inv.f7 h1 h2).mv mv (by decide)), (fun h1 h2 => (inv.f10 h1 h2).mv mv (by decide)), (fun _ _ => FE.mk' hr), (fun h1 => (inv.f17 h1).mv mv (by decide)), (fun h => (inv.fb h).mv mv (by decide)), inv.fa⟩⟩))
      rw [Array.getD_eq_getD_getElem?] at o72
      first | (go_simp; done) | (go_simp; rfl)
    · have ho0 := ho
      conv at ho => lhs; whnf; arg 1; whnf
      obtain rfl := Option.some.inj ho
      have d10 : L 10 = true := (hdeps ⟨10, .data⟩ (by simp) rfl).resolve_left (by decide)
      have e67 : a.tmps.getD 67 undef = vs 10 := hD.own 10 _ 67 rfl rfl d10
      have d16 : L 16 = true := (hdeps ⟨16, .data⟩ (by simp) rfl).resolve_left (by decide)
      have e73 : a.tmps.getD 73 undef = vs 16 := hD.own 16 _ 73 rfl rfl d16
      obtain ⟨A_, c_, ev_, hle_, hC⟩ := Kd.R_reads (inv.f16 d16 hL)
      refine wpOp_step ho0 (fun K' hK => app_ k36 (w0 := w0) w0.heap.size col 2 (by rfl) (.tmp 67) (.tmp 73) 27 36 (.agg #[(.int .i64 0), (.int .i64 0), (.int .i64 0)]) 24 rfl Try.underlying27 info36 rfl (by decide) (by decide) _ es [(⟨x1, (ns.length : Int), 0⟩ : S36)] _ _ _ e67 (e73.trans ev_) (inv.f10 d10 hL) hC eM inv.below hle (by have := hlE; simp only [List.length_singleton]; omega) (fun v1 w1 hr hb mv => hK _ _ ⟨v1, rfl, _, ⟨hb, inv.c3, inv.c6, inv.c10, (fun _ => ⟨d10, d16⟩), (fun h => ⟨(inv.c18 h).1, rfl⟩), (fun h1 h2 => (inv.f0 h1 h2).mv mv (by decide)), (fun h1 h2 => (inv.f3 h1 h2).mv mv (by decide)), (fun h1 h2 => (inv.f5 h1 h2).mv mv (by decide)), (fun h1 => (inv.f6 h1).mv mv (by decide)), (fun h1 h2 => (Bool.false_ne_true (h2.symm.trans d10)).elim), (fun _ h => by cases h), (fun _ h => by cases h), (fun _ => FE.mk' hr), (fun h => (inv.fb h).mv mv (by decide)), (fun h => (Bool.false_ne_true (hL.symm.trans (inv.c18 h).2)).elim)⟩⟩))
    · have ho0 := ho
      conv at ho => lhs; whnf; arg 1; whnf
      obtain rfl := Option.some.inj ho
      have d6 : L 6 = true := (hdeps ⟨6, .data⟩ (by simp) rfl).resolve_left (by decide)
      have e63 : a.tmps.getD 63 undef = vs 6 := hD.own 6 _ 63 rfl rfl d6
      have d17 : L 17 = true := (hdeps ⟨17, .data⟩ (by simp) rfl).resolve_left (by decide)
      have e74 : a.tmps.getD 74 undef = vs 17 := hD.own 17 _ 74 rfl rfl d17
      obtain ⟨A6, k6, ev6⟩ := Kd.R_slice (inv.f6 d6)
      rw [ev6] at e63
      obtain ⟨A17, k17, ev17⟩ := Kd.R_slice (inv.f17 d17)
      rw [ev17] at e74
      have hb := inv.below
      have mv := mv_refl w col 9
      refine wpOp_step ho0 (fun K' hK => event_step (by rfl) (w1 := w) (v := .agg #[vs 6, vs 17]) ?_ (hK _ _ ⟨_, rfl, col, ⟨hb, inv.c3, inv.c6, inv.c10, inv.c17, (fun _ => ⟨d6, d17⟩), (fun h1 h2 => (inv.f0 h1 h2).mv mv (by decide)), (fun h1 h2 => (inv.f3 h1 h2).mv mv (by decide)), (fun h1 h2 => (inv.f5 h1 h2).mv mv (by decide)), (fun h1 => (inv.f6 h1).mv mv (by decide)), (fun h1 h2 => (inv.f7 h1 h2).mv mv (by decide)), (fun h1 h2 => (inv.f10 h1 h2).mv mv (by decide)), (fun h1 h2 => (inv.f16 h1 h2).mv mv (by decide)), (fun h1 => (inv.f17 h1).mv mv (by decide)), (fun h => (inv.fb h).mv mv (by decide)), (fun _ => rfl)⟩⟩))
      rw [ev6]
      rw [Array.getD_eq_getD_getElem?] at e63
      rw [ev17]
      rw [Array.getD_eq_getD_getElem?] at e74
      first | (go_simp; done) | (go_simp; rfl)
    · have ho0 := ho
      conv at ho => lhs; whnf; arg 1; whnf
      obtain rfl := Option.some.inj ho
      refine wpOp_step ho0 (fun K' hK => box_step (by rfl) (N := 8) rfl (cs := #[.slice none 0 0, .slice none 0 0]) (t := 29) ?_ (fun g hg w1 hbox hb1 => ?_))
      · first | (go_simp; done) | (go_simp; rfl)
      · have hb := below_then inv.below hle hb1
        have mv := mv_below col 4 hb1
        exact hK _ _ ⟨_, rfl, _, ⟨hb, inv.c3, inv.c6, inv.c10, inv.c17, inv.c18, (fun h1 h2 => (inv.f0 h1 h2).mv mv (by decide)), (fun h1 h2 => (inv.f3 h1 h2).mv mv (by decide)), (fun h1 h2 => (inv.f5 h1 h2).mv mv (by decide)), (fun h1 => (inv.f6 h1).mv mv (by decide)), (fun h1 h2 => (inv.f7 h1 h2).mv mv (by decide)), (fun h1 h2 => (inv.f10 h1 h2).mv mv (by decide)), (fun h1 h2 => (inv.f16 h1 h2).mv mv (by decide)), (fun h1 => (inv.f17 h1).mv mv (by decide)), (fun _ => ⟨g, rfl, by rw [hg]; exact if_neg (Nat.lt_irrefl _), by rw [hg]; exact hle, hbox⟩), inv.fa⟩⟩
  · intro L vs a w hLL hD hI
    obtain ⟨col, inv⟩ := hI
    have t0 : L 0 = true := (hLL 0).trans (by decide)
    have t3 : L 3 = true := (hLL 3).trans (by decide)
    have t5 : L 5 = true := (hLL 5).trans (by decide)
    have t6 : L 6 = true := (hLL 6).trans (by decide)
    have t7 : L 7 = true := (hLL 7).trans (by decide)
    have t10 : L 10 = true := (hLL 10).trans (by decide)
    have t16 : L 16 = true := (hLL 16).trans (by decide)
    have t17 : L 17 = true := (hLL 17).trans (by decide)
    have t18 : L 18 = true := (hLL 18).trans (by decide)
    have t19 : L 19 = true := (hLL 19).trans (by decide)
    have ea := Done.eq hok hD [0, 3, 5, 6, 7, 10, 16, 17, 18, 19] (fun j => (hLL j).trans (by rcases Nat.lt_or_ge j 20 with h | h; (exact (by decide : ∀ j, j < 20 → (decide (j < 20) && !(#[false, true, true, false, true, false, false, false, true, true, false, true, true, true, true, true, false, false, false, false, false] : Array Bool).getD j false) = List.contains [0, 3, 5, 6, 7, 10, 16, 17, 18, 19] j) j h); (rw [decide_eq_false (by omega), Bool.false_and]; symm; simp; omega))) (by decide) (by decide +kernel)
    have e1 : a.tmps.getD 8 undef = vs 19 := hD.own 19 _ 8 rfl rfl t19
    have e2 : a.tmps.getD 75 undef = vs 18 := hD.own 18 _ 75 rfl rfl t18
    obtain ⟨b, eb, hcb, hrb, hbk⟩ := inv.fb t19
    have ebd := inv.fa t18
    have r6 := inv.f6 t6
    obtain ⟨A6, k6, ev6⟩ := Kd.R_slice r6
    have r17 := inv.f17 t17
    obtain ⟨A17, k17, ev17⟩ := Kd.R_slice r17
    have hq := hfin vs b ((w.setCell ⟨b, 0, none⟩ (vs 6)).setCell ⟨b, 1, none⟩ (vs 17)) eb ebd (Kd.R_mono (Kd.R_far (p := ⟨b, 1, none⟩) (Kd.R_far (p := ⟨b, 0, none⟩) r6 (fun k hk e => absurd (hk.symm.trans ((congrArg col e).trans hcb)) (by decide)) _) (fun k hk e => absurd (hk.symm.trans ((congrArg col e).trans hcb)) (by decide)) _) (fun _ _ => trivial)) (Kd.R_mono (Kd.R_far (p := ⟨b, 1, none⟩) (Kd.R_far (p := ⟨b, 0, none⟩) r17 (fun k hk e => absurd (hk.symm.trans ((congrArg col e).trans hcb)) (by decide)) _) (fun k hk e => absurd (hk.symm.trans ((congrArg col e).trans hcb)) (by decide)) _) (fun _ _ => trivial)) (blk_put (blk_put hbk 0 _ rfl) 1 _ rfl) hrb (below_set (below_set inv.below hrb) hrb) a ea
    have c0 : w.cell? ⟨b, 0, none⟩ = some (.slice none 0 0) := (blk_cell hbk 0).trans rfl
    have c1 : w.cell? ⟨b, 1, none⟩ = some (.slice none 0 0) := (blk_cell hbk 1).trans rfl
    have z0 := blk_frozen hbk 0
    have z1 := blk_frozen hbk 1
    rw [eb] at e1
    rw [ebd, ev6, ev17] at e2
    rw [ev6, ev17] at hq
    rw [Array.getD_eq_getD_getElem?] at e1 e2
    exact wpOp_step (i := 20) rfl (fun K' hK => skip_ (by rfl) rfl (reg6_store e1 e2 c0 c1 z0 z1 rfl) (hK _ _ hq))
structure reg11Inv (w0 : World) (r : Nat) (A0 : Option Addr) (c0 n0 : Nat) (ys zs : List S36) (L : Nat → Bool) (w : World) (vs : Nat → Value) (col : Nat → Nat) : Prop where
  below : Below r w0 w
  c7 : L 7 = true → L 2 = true
  c13 : L 13 = true → L 7 = true
  c14 : L 14 = true → L 13 = true
  f2 : L 2 = true → L 7 = false → FE w r col 0 (vs 2) []
  f7 : L 7 = true → L 13 = false → FE w r col 0 (vs 7) ys
  f13 : L 13 = true → FE w r col 0 (vs 13) (ys ++ zs)
  fb : L 15 = true → FB w r col 1 (vs 15)
  fa : L 14 = true → vs 14 = .agg #[.slice A0 n0 c0, vs 13]
set_option maxHeartbeats 1600000 in
set_option maxRecDepth 100000 in
theorem reg11_store {a : Act} {w : World} {b : Nat} {B0 B1 : Option Addr} {n0 n1 k0 k1 : Nat} (e1 : a.tmps[9]?.getD undef = .pointer (some ⟨b, 0, none⟩)) (e2 : a.tmps[103]?.getD undef = .agg #[.slice B0 n0 k0, .slice B1 n1 k1]) (c0 : w.cell? ⟨b, 0, none⟩ = some (.slice none 0 0)) (c1 : w.cell? ⟨b, 1, none⟩ = some (.slice none 0 0)) (z0 : w.frozen? ⟨b, 0, none⟩ = false) (z1 : w.frozen? ⟨b, 1, none⟩ = false) {o : Oper} (ho : (opsOf Try.f5 11)[16]? = some o) :
    (execOp a.eval o).run Try.prog w = .ok .skip ((w.setCell ⟨b, 0, none⟩ (.slice B0 n0 k0)).setCell ⟨b, 1, none⟩ (.slice B1 n1 k1)) := by
  conv at ho => lhs; whnf; arg 1; whnf
  obtain rfl := Option.some.inj ho
  have hu := Try.underlying29
  first | (go_simp; done) | (go_simp; rfl)
set_option maxHeartbeats 6400000 in
set_option maxRecDepth 100000 in
theorem reg11 {Q : Exit → Act → World → Prop} {S : World → Prop} {fuel : Nat} {a0 : Act} {w0 : World} (A0 : Option Addr) (c0 n0 : Nat) (ys zs : List S36) {B1 B2 : Option Addr} {d1 d2 : Nat} (hfuel : 6 ≤ fuel) (hsz : a0.tmps.size = 135) (s90 : a0.tmps.getD 90 undef = .slice A0 n0 c0) (s95 : a0.tmps.getD 95 undef = .slice B1 ys.length d1) (s101 : a0.tmps.getD 101 undef = .slice B2 zs.length d2) (hC1 : k36.C w0 B1 ys.length ys) (hC2 : k36.C w0 B2 zs.length zs) (hlY : ys.length + zs.length < 5864062014805) (hS : ∀ w1, Below w0.heap.size w0 w1 → S w1)
    (hfin : ∀ (vs : Nat → Value) (b : Nat) (w2 : World), vs 15 = .pointer (some ⟨b, 0, none⟩) → vs 14 = .agg #[.slice A0 n0 c0, vs 13] → k36.R 36 w2 w0.heap.size (fun _ => True) (vs 13) (ys ++ zs) → w2.heap[b]? = some (.cells #[.slice A0 n0 c0, vs 13] 29 (0, 0)) → w0.heap.size ≤ b → Below w0.heap.size w0 w2 → ∀ a' : Act, a' = puts (opsOf Try.f5 11) vs [2, 7, 13, 14, 15] a0 → Q .normal a' w2) :
    wpAnyLast Try.prog .any (opsOf Try.f5 11) Q S [16] fuel #[true, true, false, true, true, true, true, false, true, true, true, true, true, false, false, false, false] a0 w0 := by
  have hok : okOps (opsOf Try.f5 11) a0.tmps.size = true := by rw [hsz]; kernel_rfl
  refine inv_ 16 (by kernel_rfl) (by kernel_rfl) (by kernel_rfl) (Nat.le_trans (by decide) hfuel) hok (by kernel_rfl) rfl (fun L w vs => ∃ col, reg11Inv w0 w0.heap.size A0 c0 n0 ys zs L w vs col) (fun L w vs h => ?_) ?_ ?_ ?_
  · obtain ⟨col, inv⟩ := h; exact hS w inv.below
  · exact ⟨fun _ => 0, Below.refl _ _, (fun h => by cases h), (fun h => by cases h), (fun h => by cases h), (fun h _ => by cases h), (fun h _ => by cases h), (fun h => by cases h), (fun h => by cases h), (fun h => by cases h)⟩
  · intro i o L vs a w hi ho hl hL hLl hdeps hD hI
    obtain ⟨col, inv⟩ := hI
    have hle : w0.heap.size ≤ w.heap.size := inv.below.size
    have o90 : a.tmps.getD 90 undef = .slice A0 n0 c0 := (Done.old (j0 := 1) hok hD hLl rfl rfl (by decide)).trans s90
    have o95 : a.tmps.getD 95 undef = .slice B1 ys.length d1 := (Done.old (j0 := 6) hok hD hLl rfl rfl (by decide)).trans s95
    have o101 : a.tmps.getD 101 undef = .slice B2 zs.length d2 := (Done.old (j0 := 12) hok hD hLl rfl rfl (by decide)).trans s101
    have hi' := (by decide : ∀ i, i < 16 → (#[true, true, false, true, true, true, true, false, true, true, true, true, true, false, false, false, false] : Array Bool).getD i false = false → i = 2 ∨ i = 7 ∨ i = 13 ∨ i = 14 ∨ i = 15) i hi hl
    rcases hi' with rfl | rfl | rfl | rfl | rfl
    · have ho0 := ho
      conv at ho => lhs; whnf; arg 1; whnf
      obtain rfl := Option.some.inj ho
      refine wpOp_step ho0 (fun K' hK => lay_ k36 (w0 := w0) w0.heap.size 36 col 0 (N := 91) rfl (by rfl) (xs := ([] : List S36)) (inner := []) ?_ (Reps.none _ _) inv.below hle (by simp) (fun v1 w1 hr hb mv => hK _ _ ⟨v1, rfl, _, ⟨hb, (fun h => rfl), inv.c13, inv.c14, (fun _ _ => FE.mk' hr), (fun h1 h2 => (Bool.false_ne_true (hL.symm.trans (inv.c7 h1))).elim), (fun h1 => (Bool.false_ne_true (hL.symm.trans (inv.c7 (inv.c13 h1)))).elim), (fun h => (inv.fb h).mv mv (by decide)), inv.fa⟩⟩))
      first | (go_simp; done) | (go_simp; rfl)
    · have ho0 := ho
      conv at ho => lhs; whnf; arg 1; whnf
      obtain rfl := Option.some.inj ho
      have d2 : L 2 = true := (hdeps ⟨2, .data⟩ (by simp) rfl).resolve_left (by decide)
      have e91 : a.tmps.getD 91 undef = vs 2 := hD.own 2 _ 91 rfl rfl d2
      have hC := Kd.C_below hC1 (below_of inv.below)
      refine wpOp_step ho0 (fun K' hK => app_ k36 (w0 := w0) w0.heap.size col 0 (by rfl) (.tmp 91) (.tmp 95) 27 36 (.agg #[(.int .i64 0), (.int .i64 0), (.int .i64 0)]) 24 rfl Try.underlying27 info36 rfl (by decide) (by decide) _ [] ys _ _ _ e91 o95 (inv.f2 d2 hL) hC eM inv.below hle (by have := hlY; simp only [List.length_nil]; omega) (fun v1 w1 hr hb mv => hK _ _ ⟨v1, rfl, _, ⟨hb, (fun _ => d2), (fun h => rfl), inv.c14, (fun _ h => by cases h), (fun _ _ => FE.mk' hr), (fun h1 => (Bool.false_ne_true (hL.symm.trans (inv.c13 h1))).elim), (fun h => (inv.fb h).mv mv (by decide)), inv.fa⟩⟩))
    · have ho0 := ho
      conv at ho => lhs; whnf; arg 1; whnf
      obtain rfl := Option.some.inj ho
      have d7 : L 7 = true := (hdeps ⟨7, .data⟩ (by simp) rfl).resolve_left (by decide)
      have e96 : a.tmps.getD 96 undef = vs 7 := hD.own 7 _ 96 rfl rfl d7
      have hC := Kd.C_below hC2 (below_of inv.below)
      refine wpOp_step ho0 (fun K' hK => app_ k36 (w0 := w0) w0.heap.size col 0 (by rfl) (.tmp 96) (.tmp 101) 27 36 (.agg #[(.int .i64 0), (.int .i64 0), (.int .i64 0)]) 24 rfl Try.underlying27 info36 rfl (by decide) (by decide) _ ys zs _ _ _ e96 o101 (inv.f7 d7 hL) hC eM inv.below hle (by have := hlY; omega) (fun v1 w1 hr hb mv => hK _ _ ⟨v1, rfl, _, ⟨hb, inv.c7, (fun _ => d7), (fun h => rfl), (fun h1 h2 => (Bool.false_ne_true (h2.symm.trans d7)).elim), (fun _ h => by cases h), (fun _ => FE.mk' hr), (fun h => (inv.fb h).mv mv (by decide)), (fun h => (Bool.false_ne_true (hL.symm.trans (inv.c14 h))).elim)⟩⟩))
    · have ho0 := ho
      conv at ho => lhs; whnf; arg 1; whnf
      obtain rfl := Option.some.inj ho
      have d13 : L 13 = true := (hdeps ⟨13, .data⟩ (by simp) rfl).resolve_left (by decide)
      have e102 : a.tmps.getD 102 undef = vs 13 := hD.own 13 _ 102 rfl rfl d13
      obtain ⟨A13, k13, ev13⟩ := Kd.R_slice (inv.f13 d13)
      rw [ev13] at e102
      have hb := inv.below
      have mv := mv_refl w col 9
      refine wpOp_step ho0 (fun K' hK => event_step (by rfl) (w1 := w) (v := .agg #[.slice A0 n0 c0, vs 13]) ?_ (hK _ _ ⟨_, rfl, col, ⟨hb, inv.c7, inv.c13, (fun _ => d13), (fun h1 h2 => (inv.f2 h1 h2).mv mv (by decide)), (fun h1 h2 => (inv.f7 h1 h2).mv mv (by decide)), (fun h1 => (inv.f13 h1).mv mv (by decide)), (fun h => (inv.fb h).mv mv (by decide)), (fun _ => rfl)⟩⟩))
      rw [ev13]
      rw [Array.getD_eq_getD_getElem?] at e102
      rw [Array.getD_eq_getD_getElem?] at o90
      first | (go_simp; done) | (go_simp; rfl)
    · have ho0 := ho
      conv at ho => lhs; whnf; arg 1; whnf
      obtain rfl := Option.some.inj ho
      refine wpOp_step ho0 (fun K' hK => box_step (by rfl) (N := 9) rfl (cs := #[.slice none 0 0, .slice none 0 0]) (t := 29) ?_ (fun g hg w1 hbox hb1 => ?_))
      · first | (go_simp; done) | (go_simp; rfl)
      · have hb := below_then inv.below hle hb1
        have mv := mv_below col 1 hb1
        exact hK _ _ ⟨_, rfl, _, ⟨hb, inv.c7, inv.c13, inv.c14, (fun h1 h2 => (inv.f2 h1 h2).mv mv (by decide)), (fun h1 h2 => (inv.f7 h1 h2).mv mv (by decide)), (fun h1 => (inv.f13 h1).mv mv (by decide)), (fun _ => ⟨g, rfl, by rw [hg]; exact if_neg (Nat.lt_irrefl _), by rw [hg]; exact hle, hbox⟩), inv.fa⟩⟩
  · intro L vs a w hLL hD hI
    obtain ⟨col, inv⟩ := hI
    have t2 : L 2 = true := (hLL 2).trans (by decide)
    have t7 : L 7 = true := (hLL 7).trans (by decide)
    have t13 : L 13 = true := (hLL 13).trans (by decide)
    have t14 : L 14 = true := (hLL 14).trans (by decide)
    have t15 : L 15 = true := (hLL 15).trans (by decide)
    have ea := Done.eq hok hD [2, 7, 13, 14, 15] (fun j => (hLL j).trans (by rcases Nat.lt_or_ge j 16 with h | h; (exact (by decide : ∀ j, j < 16 → (decide (j < 16) && !(#[true, true, false, true, true, true, true, false, true, true, true, true, true, false, false, false, false] : Array Bool).getD j false) = List.contains [2, 7, 13, 14, 15] j) j h); (rw [decide_eq_false (by omega), Bool.false_and]; symm; simp; omega))) (by decide) (by decide +kernel)
    have e1 : a.tmps.getD 9 undef = vs 15 := hD.own 15 _ 9 rfl rfl t15
    have e2 : a.tmps.getD 103 undef = vs 14 := hD.own 14 _ 103 rfl rfl t14
    obtain ⟨b, eb, hcb, hrb, hbk⟩ := inv.fb t15
    have ebd := inv.fa t14
    have r13 := inv.f13 t13
    obtain ⟨A13, k13, ev13⟩ := Kd.R_slice r13
    have hq := hfin vs b ((w.setCell ⟨b, 0, none⟩ (.slice A0 n0 c0)).setCell ⟨b, 1, none⟩ (vs 13)) eb ebd (Kd.R_mono (Kd.R_far (p := ⟨b, 1, none⟩) (Kd.R_far (p := ⟨b, 0, none⟩) r13 (fun k hk e => absurd (hk.symm.trans ((congrArg col e).trans hcb)) (by decide)) _) (fun k hk e => absurd (hk.symm.trans ((congrArg col e).trans hcb)) (by decide)) _) (fun _ _ => trivial)) (blk_put (blk_put hbk 0 _ rfl) 1 _ rfl) hrb (below_set (below_set inv.below hrb) hrb) a ea
    have c0 : w.cell? ⟨b, 0, none⟩ = some (.slice none 0 0) := (blk_cell hbk 0).trans rfl
    have c1 : w.cell? ⟨b, 1, none⟩ = some (.slice none 0 0) := (blk_cell hbk 1).trans rfl
    have z0 := blk_frozen hbk 0
    have z1 := blk_frozen hbk 1
    rw [eb] at e1
    rw [ebd, ev13] at e2
    rw [ev13] at hq
    rw [Array.getD_eq_getD_getElem?] at e1 e2
    exact wpOp_step (i := 16) rfl (fun K' hK => skip_ (by rfl) rfl (reg11_store e1 e2 c0 c1 z0 z1 rfl) (hK _ _ hq))
structure reg12Inv (w0 : World) (r : Nat) (A0 : Option Addr) (c0 n0 : Nat) (es : List S36) (e : S36) (L : Nat → Bool) (w : World) (vs : Nat → Value) (col : Nat → Nat) : Prop where
  below : Below r w0 w
  c5 : L 5 = true → L 2 = true
  c12 : L 12 = true → L 5 = true ∧ L 11 = true
  c13 : L 13 = true → L 12 = true
  f2 : L 2 = true → L 5 = false → FE w r col 0 (vs 2) []
  f5 : L 5 = true → L 12 = false → FE w r col 0 (vs 5) es
  f11 : L 11 = true → L 12 = false → FE w r col 2 (vs 11) [e]
  f12 : L 12 = true → FE w r col 0 (vs 12) (es ++ [e])
  fb : L 14 = true → FB w r col 1 (vs 14)
  fa : L 13 = true → vs 13 = .agg #[.slice A0 n0 c0, vs 12]
set_option maxHeartbeats 1600000 in
set_option maxRecDepth 100000 in
theorem reg12_store {a : Act} {w : World} {b : Nat} {B0 B1 : Option Addr} {n0 n1 k0 k1 : Nat} (e1 : a.tmps[10]?.getD undef = .pointer (some ⟨b, 0, none⟩)) (e2 : a.tmps[117]?.getD undef = .agg #[.slice B0 n0 k0, .slice B1 n1 k1]) (c0 : w.cell? ⟨b, 0, none⟩ = some (.slice none 0 0)) (c1 : w.cell? ⟨b, 1, none⟩ = some (.slice none 0 0)) (z0 : w.frozen? ⟨b, 0, none⟩ = false) (z1 : w.frozen? ⟨b, 1, none⟩ = false) {o : Oper} (ho : (opsOf Try.f5 12)[15]? = some o) :
    (execOp a.eval o).run Try.prog w = .ok .skip ((w.setCell ⟨b, 0, none⟩ (.slice B0 n0 k0)).setCell ⟨b, 1, none⟩ (.slice B1 n1 k1)) := by
  conv at ho => lhs; whnf; arg 1; whnf
  obtain rfl := Option.some.inj ho
  have hu := Try.underlying29
  first | (go_simp; done) | (go_simp; rfl)
set_option maxHeartbeats 6400000 in
set_option maxRecDepth 100000 in
theorem reg12 {Q : Exit → Act → World → Prop} {S : World → Prop} {fuel : Nat} {a0 : Act} {w0 : World} (A0 : Option Addr) (c0 n0 : Nat) (es : List S36) (e : S36) {B1 : Option Addr} {d1 : Nat} (hfuel : 7 ≤ fuel) (hsz : a0.tmps.size = 135) (s105 : a0.tmps.getD 105 undef = .slice A0 n0 c0) (s108 : a0.tmps.getD 108 undef = .slice B1 es.length d1) (s114 : a0.tmps.getD 114 undef = .agg #[.int .i64 e.f0, .int .i64 e.f1, .int .i64 e.f2]) (hC1 : k36.C w0 B1 es.length es) (hlE : es.length < 5864062014805) (hS : ∀ w1, Below w0.heap.size w0 w1 → S w1)
    (hfin : ∀ (vs : Nat → Value) (b : Nat) (w2 : World), vs 14 = .pointer (some ⟨b, 0, none⟩) → vs 13 = .agg #[.slice A0 n0 c0, vs 12] → k36.R 36 w2 w0.heap.size (fun _ => True) (vs 12) (es ++ [e]) → w2.heap[b]? = some (.cells #[.slice A0 n0 c0, vs 12] 29 (0, 0)) → w0.heap.size ≤ b → Below w0.heap.size w0 w2 → ∀ a' : Act, a' = puts (opsOf Try.f5 12) vs [2, 5, 11, 12, 13, 14] a0 → Q .normal a' w2) :
    wpAnyLast Try.prog .any (opsOf Try.f5 12) Q S [15] fuel #[true, true, false, true, true, false, true, true, true, true, true, false, false, false, false, false] a0 w0 := by
  have hok : okOps (opsOf Try.f5 12) a0.tmps.size = true := by rw [hsz]; kernel_rfl
  refine inv_ 15 (by kernel_rfl) (by kernel_rfl) (by kernel_rfl) (Nat.le_trans (by decide) hfuel) hok (by kernel_rfl) rfl (fun L w vs => ∃ col, reg12Inv w0 w0.heap.size A0 c0 n0 es e L w vs col) (fun L w vs h => ?_) ?_ ?_ ?_
  · obtain ⟨col, inv⟩ := h; exact hS w inv.below
  · exact ⟨fun _ => 0, Below.refl _ _, (fun h => by cases h), (fun h => by cases h), (fun h => by cases h), (fun h _ => by cases h), (fun h _ => by cases h), (fun h _ => by cases h), (fun h => by cases h), (fun h => by cases h), (fun h => by cases h)⟩
  · intro i o L vs a w hi ho hl hL hLl hdeps hD hI
    obtain ⟨col, inv⟩ := hI
    have hle : w0.heap.size ≤ w.heap.size := inv.below.size
    have o105 : a.tmps.getD 105 undef = .slice A0 n0 c0 := (Done.old (j0 := 1) hok hD hLl rfl rfl (by decide)).trans s105
    have o108 : a.tmps.getD 108 undef = .slice B1 es.length d1 := (Done.old (j0 := 4) hok hD hLl rfl rfl (by decide)).trans s108
    have o114 : a.tmps.getD 114 undef = .agg #[.int .i64 e.f0, .int .i64 e.f1, .int .i64 e.f2] := (Done.old (j0 := 10) hok hD hLl rfl rfl (by decide)).trans s114
    have hi' := (by decide : ∀ i, i < 15 → (#[true, true, false, true, true, false, true, true, true, true, true, false, false, false, false, false] : Array Bool).getD i false = false → i = 2 ∨ i = 5 ∨ i = 11 ∨ i = 12 ∨ i = 13 ∨ i = 14) i hi hl
    rcases hi' with rfl | rfl | rfl | rfl | rfl | rfl
    · have ho0 := ho
      conv at ho => lhs; whnf; arg 1; whnf
      obtain rfl := Option.some.inj ho
      refine wpOp_step ho0 (fun K' hK => lay_ k36 (w0 := w0) w0.heap.size 36 col 0 (N := 106) rfl (by rfl) (xs := ([] : List S36)) (inner := []) ?_ (Reps.none _ _) inv.below hle (by simp) (fun v1 w1 hr hb mv => hK _ _ ⟨v1, rfl, _, ⟨hb, (fun h => rfl), inv.c12, inv.c13, (fun _ _ => FE.mk' hr), (fun h1 h2 => (Bool.false_ne_true (hL.symm.trans (inv.c5 h1))).elim), (fun h1 h2 => (inv.f11 h1 h2).mv mv (by decide)), (fun h1 => (Bool.false_ne_true (hL.symm.trans (inv.c5 (inv.c12 h1).1))).elim), (fun h => (inv.fb h).mv mv (by decide)), inv.fa⟩⟩))
      first | (go_simp; done) | (go_simp; rfl)
    · have ho0 := ho
      conv at ho => lhs; whnf; arg 1; whnf
      obtain rfl := Option.some.inj ho
      have d2 : L 2 = true := (hdeps ⟨2, .data⟩ (by simp) rfl).resolve_left (by decide)
      have e106 : a.tmps.getD 106 undef = vs 2 := hD.own 2 _ 106 rfl rfl d2
      have hC := Kd.C_below hC1 (below_of inv.below)
      refine wpOp_step ho0 (fun K' hK => app_ k36 (w0 := w0) w0.heap.size col 0 (by rfl) (.tmp 106) (.tmp 108) 27 36 (.agg #[(.int .i64 0), (.int .i64 0), (.int .i64 0)]) 24 rfl Try.underlying27 info36 rfl (by decide) (by decide) _ [] es _ _ _ e106 o108 (inv.f2 d2 hL) hC eM inv.below hle (by have := hlE; simp only [List.length_nil]; omega) (fun v1 w1 hr hb mv => hK _ _ ⟨v1, rfl, _, ⟨hb, (fun _ => d2), (fun h => ⟨rfl, (inv.c12 h).2⟩), inv.c13, (fun _ h => by cases h), (fun _ _ => FE.mk' hr), (fun h1 h2 => (inv.f11 h1 h2).mv mv (by decide)), (fun h1 => (Bool.false_ne_true (hL.symm.trans (inv.c12 h1).1)).elim), (fun h => (inv.fb h).mv mv (by decide)), inv.fa⟩⟩))
    · have ho0 := ho
      conv at ho => lhs; whnf; arg 1; whnf
      obtain rfl := Option.some.inj ho
      refine wpOp_step ho0 (fun K' hK => lay_ k36 (w0 := w0) w0.heap.size 36 col 2 (N := 115) rfl (by rfl) (xs := ([e] : List S36)) (inner := [.int .i64 e.f0, .int .i64 e.f1, .int .i64 e.f2]) ?_ (Reps.c3 (k36_mkM _ _ _ _) (Reps.none _ _)) inv.below hle (by simp) (fun v1 w1 hr hb mv => hK _ _ ⟨v1, rfl, _, ⟨hb, inv.c5, (fun h => ⟨(inv.c12 h).1, rfl⟩), inv.c13, (fun h1 h2 => (inv.f2 h1 h2).mv mv (by decide)), (fun h1 h2 => (inv.f5 h1 h2).mv mv (by decide)), (fun _ _ => FE.mk' hr), (fun h1 => (inv.f12 h1).mv mv (by decide)), (fun h => (inv.fb h).mv mv (by decide)), inv.fa⟩⟩))
      rw [Array.getD_eq_getD_getElem?] at o114
      first | (go_simp; done) | (go_simp; rfl)
    · have ho0 := ho
      conv at ho => lhs; whnf; arg 1; whnf
      obtain rfl := Option.some.inj ho
      have d5 : L 5 = true := (hdeps ⟨5, .data⟩ (by simp) rfl).resolve_left (by decide)
      have e109 : a.tmps.getD 109 undef = vs 5 := hD.own 5 _ 109 rfl rfl d5
      have d11 : L 11 = true := (hdeps ⟨11, .data⟩ (by simp) rfl).resolve_left (by decide)
      have e115 : a.tmps.getD 115 undef = vs 11 := hD.own 11 _ 115 rfl rfl d11
      obtain ⟨A_, c_, ev_, hle_, hC⟩ := Kd.R_reads (inv.f11 d11 hL)
      refine wpOp_step ho0 (fun K' hK => app_ k36 (w0 := w0) w0.heap.size col 0 (by rfl) (.tmp 109) (.tmp 115) 27 36 (.agg #[(.int .i64 0), (.int .i64 0), (.int .i64 0)]) 24 rfl Try.underlying27 info36 rfl (by decide) (by decide) _ es [e] _ _ _ e109 (e115.trans ev_) (inv.f5 d5 hL) hC eM inv.below hle (by have := hlE; simp only [List.length_singleton]; omega) (fun v1 w1 hr hb mv => hK _ _ ⟨v1, rfl, _, ⟨hb, inv.c5, (fun _ => ⟨d5, d11⟩), (fun h => rfl), (fun h1 h2 => (Bool.false_ne_true (h2.symm.trans d5)).elim), (fun _ h => by cases h), (fun _ h => by cases h), (fun _ => FE.mk' hr), (fun h => (inv.fb h).mv mv (by decide)), (fun h => (Bool.false_ne_true (hL.symm.trans (inv.c13 h))).elim)⟩⟩))
    · have ho0 := ho
      conv at ho => lhs; whnf; arg 1; whnf
      obtain rfl := Option.some.inj ho
      have d12 : L 12 = true := (hdeps ⟨12, .data⟩ (by simp) rfl).resolve_left (by decide)
      have e116 : a.tmps.getD 116 undef = vs 12 := hD.own 12 _ 116 rfl rfl d12
      obtain ⟨A12, k12, ev12⟩ := Kd.R_slice (inv.f12 d12)
      rw [ev12] at e116
      have hb := inv.below
      have mv := mv_refl w col 9
      refine wpOp_step ho0 (fun K' hK => event_step (by rfl) (w1 := w) (v := .agg #[.slice A0 n0 c0, vs 12]) ?_ (hK _ _ ⟨_, rfl, col, ⟨hb, inv.c5, inv.c12, (fun _ => d12), (fun h1 h2 => (inv.f2 h1 h2).mv mv (by decide)), (fun h1 h2 => (inv.f5 h1 h2).mv mv (by decide)), (fun h1 h2 => (inv.f11 h1 h2).mv mv (by decide)), (fun h1 => (inv.f12 h1).mv mv (by decide)), (fun h => (inv.fb h).mv mv (by decide)), (fun _ => rfl)⟩⟩))
      rw [ev12]
      rw [Array.getD_eq_getD_getElem?] at e116
      rw [Array.getD_eq_getD_getElem?] at o105
      first | (go_simp; done) | (go_simp; rfl)
    · have ho0 := ho
      conv at ho => lhs; whnf; arg 1; whnf
      obtain rfl := Option.some.inj ho
      refine wpOp_step ho0 (fun K' hK => box_step (by rfl) (N := 10) rfl (cs := #[.slice none 0 0, .slice none 0 0]) (t := 29) ?_ (fun g hg w1 hbox hb1 => ?_))
      · first | (go_simp; done) | (go_simp; rfl)
      · have hb := below_then inv.below hle hb1
        have mv := mv_below col 1 hb1
        exact hK _ _ ⟨_, rfl, _, ⟨hb, inv.c5, inv.c12, inv.c13, (fun h1 h2 => (inv.f2 h1 h2).mv mv (by decide)), (fun h1 h2 => (inv.f5 h1 h2).mv mv (by decide)), (fun h1 h2 => (inv.f11 h1 h2).mv mv (by decide)), (fun h1 => (inv.f12 h1).mv mv (by decide)), (fun _ => ⟨g, rfl, by rw [hg]; exact if_neg (Nat.lt_irrefl _), by rw [hg]; exact hle, hbox⟩), inv.fa⟩⟩
  · intro L vs a w hLL hD hI
    obtain ⟨col, inv⟩ := hI
    have t2 : L 2 = true := (hLL 2).trans (by decide)
    have t5 : L 5 = true := (hLL 5).trans (by decide)
    have t11 : L 11 = true := (hLL 11).trans (by decide)
    have t12 : L 12 = true := (hLL 12).trans (by decide)
    have t13 : L 13 = true := (hLL 13).trans (by decide)
    have t14 : L 14 = true := (hLL 14).trans (by decide)
    have ea := Done.eq hok hD [2, 5, 11, 12, 13, 14] (fun j => (hLL j).trans (by rcases Nat.lt_or_ge j 15 with h | h; (exact (by decide : ∀ j, j < 15 → (decide (j < 15) && !(#[true, true, false, true, true, false, true, true, true, true, true, false, false, false, false, false] : Array Bool).getD j false) = List.contains [2, 5, 11, 12, 13, 14] j) j h); (rw [decide_eq_false (by omega), Bool.false_and]; symm; simp; omega))) (by decide) (by decide +kernel)
    have e1 : a.tmps.getD 10 undef = vs 14 := hD.own 14 _ 10 rfl rfl t14
    have e2 : a.tmps.getD 117 undef = vs 13 := hD.own 13 _ 117 rfl rfl t13
    obtain ⟨b, eb, hcb, hrb, hbk⟩ := inv.fb t14
    have ebd := inv.fa t13
    have r12 := inv.f12 t12
    obtain ⟨A12, k12, ev12⟩ := Kd.R_slice r12
    have hq := hfin vs b ((w.setCell ⟨b, 0, none⟩ (.slice A0 n0 c0)).setCell ⟨b, 1, none⟩ (vs 12)) eb ebd (Kd.R_mono (Kd.R_far (p := ⟨b, 1, none⟩) (Kd.R_far (p := ⟨b, 0, none⟩) r12 (fun k hk e => absurd (hk.symm.trans ((congrArg col e).trans hcb)) (by decide)) _) (fun k hk e => absurd (hk.symm.trans ((congrArg col e).trans hcb)) (by decide)) _) (fun _ _ => trivial)) (blk_put (blk_put hbk 0 _ rfl) 1 _ rfl) hrb (below_set (below_set inv.below hrb) hrb) a ea
    have c0 : w.cell? ⟨b, 0, none⟩ = some (.slice none 0 0) := (blk_cell hbk 0).trans rfl
    have c1 : w.cell? ⟨b, 1, none⟩ = some (.slice none 0 0) := (blk_cell hbk 1).trans rfl
    have z0 := blk_frozen hbk 0
    have z1 := blk_frozen hbk 1
    rw [eb] at e1
    rw [ebd, ev12] at e2
    rw [ev12] at hq
    rw [Array.getD_eq_getD_getElem?] at e1 e2
    exact wpOp_step (i := 15) rfl (fun K' hK => skip_ (by rfl) rfl (reg12_store e1 e2 c0 c1 z0 z1 rfl) (hK _ _ hq))
end Go.Proofs.Ytjlnjlnecipllaa.Hand
