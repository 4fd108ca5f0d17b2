/- Opened: an argument that is a graph (rows of nodes and of edges), a node, a place: cells as the printed kinds read them. No condition. -/
import Derived.Deep.Slices
import Derived.Deep.Fields
import Derived.Lib.SmallJoins
import Derived.ChangeSame
import Derived.OpenShut
import Derived.Test.YtjlnjlnecipllaaPAllx0
namespace Go.Proofs.Ytjlnjlnecipllaa.GOpen
open Go.RowKit Go.ChangeShapes Go.WideShapes Go.Deep Go.Joins Go.Proofs.YtjlnjlnecipllaaW.PrintWords Go.Proofs.YtjlnjlnecipllaaW.PrintLast Go.Proofs.YtjlnjlnecipllaaW.PrintMore Go.Proofs.Ytjlnjlnecipllaa.PAll
set_option linter.unusedVariables false
set_option maxRecDepth 100000

/-- A list out of what each place has. -/
theorem build {α : Type} (Q : Nat → α → Prop) (n : Nat) (h : ∀ i, i < n → ∃ x, Q i x) : ∃ l : List α, l.length = n ∧ ∀ j p, l[j]? = some p → Q j p := by
  induction n with
  | zero => exact ⟨[], rfl, fun j p hp => by simp at hp⟩
  | succ n ih =>
    obtain ⟨l, hl, hq⟩ := ih (fun i hi => h i (by omega))
    obtain ⟨x, hx⟩ := h n (by omega)
    refine ⟨l ++ [x], by simp [hl], fun j p hp => ?_⟩
    rcases Nat.lt_or_ge j l.length with hj | hj
    · rw [List.getElem?_append_left hj] at hp
      exact hq j p hp
    · rw [List.getElem?_append_right hj] at hp
      have : j - l.length = 0 := by
        rcases Nat.eq_zero_or_pos (j - l.length) with h | h
        · exact h
        · rw [List.getElem?_eq_none (by simp; omega)] at hp; cases hp
      rw [this] at hp
      simp at hp
      subst hp
      have : j = n := by omega
      rw [this]; exact hx

section
variable {H : Type} {enc : TypeId × Value → H} {P : Program} {w : World} {base : Nat} {spare : Nat → Bool} {held : Bool}

/-- Each field a whole number, in one cell, the fields one behind the other. -/
def Nums (P : Program) (fs : Array Field) : Prop := ∀ (j : Nat) (f : Field), fs[j]? = some f → f.offset = j ∧ P.underlying f.type = some (.int .i64) ∧ P.cellsOf f.type = 1

theorem open_rows {t e : TypeId} {fs : Array Field} {fuel : Nat} {v : Value} {x : DataW H × List MemPlace} (ht : P.underlying t = some (.slice e)) (he : P.underlying e = some (.struct fs)) (hn : Nums P fs) (hC : P.cellsOf e = fs.size)
    (h : DataW.trod enc P w base spare held fuel t [v] = some x) :
    ∃ (A : Option Addr) (len cap : Nat), v = .slice A len cap ∧ len ≤ cap ∧ len ≤ maxLen ∧ (0 < len → ∃ a, A = some a ∧ ∀ i, i < len → ∀ j, j < fs.size → ∃ n : Int, w.cell? (a.add (i * fs.size + j)) = some (.int .i64 n) ∧ (Lit.int .i64 n).wf = true) := by
  rcases open_slice ht h with ⟨h0, _⟩ | ⟨a, len, cap, m, n, D, Pl, hcs, hb, hl, hm, hmm, hx, hi⟩
  · injection h0 with h0 _
    exact ⟨none, 0, 0, h0, Nat.le_refl _, Nat.zero_le _, fun h => absurd h (by omega)⟩
  · injection hcs with hcs _
    refine ⟨some a, len, cap, hcs, hl, Nat.le_trans hl hm, fun _ => ⟨a, rfl, fun i hil j hj => ?_⟩⟩
    have him : i < m := by rw [hmm]; split <;> omega
    obtain ⟨cs', hc, ht'⟩ := hi i him
    rw [hC] at hc
    obtain ⟨_, hcl, hat⟩ := World.cells?_some hc
    obtain ⟨ys, n', _, _, _, hyl, hf⟩ := DataW.trod_struct he ht'
    have hfj : fs[j]? = some fs[j] := Array.getElem?_eq_getElem hj
    obtain ⟨ho, hk, h1⟩ := hn j _ hfj
    have h2 := hf j _ hfj
    rw [ho, h1, List.getElem?_eq_getElem (by omega)] at h2
    obtain ⟨z, hz, _, hw⟩ := DataW.trod_int hk h2
    refine ⟨z, ?_, hw⟩
    have h3 := hat j hj
    have h4 : (cs'.drop j).take 1 = [cs'[j]'(by omega)] := by rw [List.drop_eq_getElem_cons (by omega)]; rfl
    rw [h4] at hz
    injection hz with hz _
    rw [← Deep.add_add, h3, List.getElem?_eq_getElem (by omega), hz]

/-- A whole number of Go's int. -/
def Wf (n : Int) : Prop := (Lit.int .i64 n).wf = true
theorem open_nodes {t : TypeId} {fuel : Nat} {v : Value} {x : DataW H × List MemPlace} {fs : Array Field} (ht : P.underlying t = some (.slice 23)) (he : P.underlying 23 = some (.struct fs)) (hn : Nums P fs) (hs : fs.size = 4) (hC : P.cellsOf 23 = fs.size)
    (h : DataW.trod enc P w base spare held fuel t [v] = some x) :
    ∃ (A : Option Addr) (l : List S23) (cap : Nat), v = .slice A l.length cap ∧ l.length ≤ cap ∧ l.length ≤ maxLen ∧ Kd.C k23 w A l.length l ∧ ∀ x ∈ l, Wf x.f0 ∧ Wf x.f1 ∧ Wf x.f2 ∧ Wf x.f3 := by
  obtain ⟨A, len, cap, rfl, hl, hm, hc⟩ := open_rows ht he hn hC h
  rw [hs] at hc
  obtain ⟨l, hll, hq⟩ := build (α := S23) (fun i x => Wf x.f0 ∧ Wf x.f1 ∧ Wf x.f2 ∧ Wf x.f3 ∧ ∃ a, A = some a ∧ w.cell? (a.add (i * 4 + 0)) = some (.int .i64 x.f0) ∧ w.cell? (a.add (i * 4 + 1)) = some (.int .i64 x.f1) ∧ w.cell? (a.add (i * 4 + 2)) = some (.int .i64 x.f2) ∧ w.cell? (a.add (i * 4 + 3)) = some (.int .i64 x.f3)) len (fun i hi => by
    obtain ⟨a, ha, hc⟩ := hc (by omega)
    obtain ⟨n0, h0, w0⟩ := hc i hi 0 (by omega)
    obtain ⟨n1, h1, w1⟩ := hc i hi 1 (by omega)
    obtain ⟨n2, h2, w2⟩ := hc i hi 2 (by omega)
    obtain ⟨n3, h3, w3⟩ := hc i hi 3 (by omega)
    exact ⟨⟨n0, n1, n2, n3⟩, w0, w1, w2, w3, a, ha, h0, h1, h2, h3⟩)
  refine ⟨A, l, cap, by rw [hll], by omega, by omega, ⟨rfl, by unfold maxLen at hm; omega, fun hp => ?_⟩, fun x hx => ?_⟩
  · obtain ⟨a, ha, _⟩ := hc (by omega)
    refine ⟨a, ha, fun j p hjp => ⟨[.int .i64 p.f0, .int .i64 p.f1, .int .i64 p.f2, .int .i64 p.f3], rfl, k23_mk _ _, fun i u hu => ?_⟩⟩
    obtain ⟨_, _, _, _, a', ha', h0, h1, h2, h3⟩ := hq j p hjp
    obtain rfl : a = a' := by rw [ha] at ha'; injection ha'
    match i, hu with
    | 0, hu => simp at hu; rw [← hu]; exact h0
    | 1, hu => simp at hu; rw [← hu]; exact h1
    | 2, hu => simp at hu; rw [← hu]; exact h2
    | 3, hu => simp at hu; rw [← hu]; exact h3
    | i + 4, hu => simp at hu
  · obtain ⟨j, hj⟩ := List.mem_iff_getElem?.1 hx
    obtain ⟨h0, h1, h2, h3, _⟩ := hq j x hj
    exact ⟨h0, h1, h2, h3⟩
theorem open_edges {t : TypeId} {fuel : Nat} {v : Value} {x : DataW H × List MemPlace} {fs : Array Field} (ht : P.underlying t = some (.slice 36)) (he : P.underlying 36 = some (.struct fs)) (hn : Nums P fs) (hs : fs.size = 3) (hC : P.cellsOf 36 = fs.size)
    (h : DataW.trod enc P w base spare held fuel t [v] = some x) :
    ∃ (A : Option Addr) (l : List S36) (cap : Nat), v = .slice A l.length cap ∧ l.length ≤ cap ∧ l.length ≤ maxLen ∧ Kd.C k36 w A l.length l ∧ ∀ x ∈ l, Wf x.f0 ∧ Wf x.f1 ∧ Wf x.f2 := by
  obtain ⟨A, len, cap, rfl, hl, hm, hc⟩ := open_rows ht he hn hC h
  rw [hs] at hc
  obtain ⟨l, hll, hq⟩ := build (α := S36) (fun i x => Wf x.f0 ∧ Wf x.f1 ∧ Wf x.f2 ∧ ∃ a, A = some a ∧ w.cell? (a.add (i * 3 + 0)) = some (.int .i64 x.f0) ∧ w.cell? (a.add (i * 3 + 1)) = some (.int .i64 x.f1) ∧ w.cell? (a.add (i * 3 + 2)) = some (.int .i64 x.f2)) len (fun i hi => by
    obtain ⟨a, ha, hc⟩ := hc (by omega)
    obtain ⟨n0, h0, w0⟩ := hc i hi 0 (by omega)
    obtain ⟨n1, h1, w1⟩ := hc i hi 1 (by omega)
    obtain ⟨n2, h2, w2⟩ := hc i hi 2 (by omega)
    exact ⟨⟨n0, n1, n2⟩, w0, w1, w2, a, ha, h0, h1, h2⟩)
  refine ⟨A, l, cap, by rw [hll], by omega, by omega, ⟨rfl, by unfold maxLen at hm; omega, fun hp => ?_⟩, fun x hx => ?_⟩
  · obtain ⟨a, ha, _⟩ := hc (by omega)
    refine ⟨a, ha, fun j p hjp => ⟨[.int .i64 p.f0, .int .i64 p.f1, .int .i64 p.f2], rfl, k36_mk _ _, fun i u hu => ?_⟩⟩
    obtain ⟨_, _, _, a', ha', h0, h1, h2⟩ := hq j p hjp
    obtain rfl : a = a' := by rw [ha] at ha'; injection ha'
    match i, hu with
    | 0, hu => simp at hu; rw [← hu]; exact h0
    | 1, hu => simp at hu; rw [← hu]; exact h1
    | 2, hu => simp at hu; rw [← hu]; exact h2
    | i + 3, hu => simp at hu
  · obtain ⟨j, hj⟩ := List.mem_iff_getElem?.1 hx
    obtain ⟨h0, h1, h2, _⟩ := hq j x hj
    exact ⟨h0, h1, h2⟩
/-- A graph, opened. -/
structure Graph (w : World) where
  A0 : Option Addr
  c0 : Nat
  l0 : List S23
  A1 : Option Addr
  c1 : Nat
  l1 : List S36
  r0 : Kd.C k23 w A0 l0.length l0
  h0 : l0.length ≤ c0
  r1 : Kd.C k36 w A1 l1.length l1
  h1 : l1.length ≤ c1
  m0 : l0.length ≤ maxLen
  m1 : l1.length ≤ maxLen
  wf0 : ∀ x ∈ l0, Wf x.f0 ∧ Wf x.f1 ∧ Wf x.f2 ∧ Wf x.f3
  wf1 : ∀ x ∈ l1, Wf x.f0 ∧ Wf x.f1 ∧ Wf x.f2
/-- Its value. -/
def Graph.v {w : World} (G : Graph w) : Value := .agg #[.slice G.A0 G.l0.length G.c0, .slice G.A1 G.l1.length G.c1]
end

theorem nums_node : ∃ fs, Try.prog.underlying 23 = some (.struct fs) ∧ Nums Try.prog fs ∧ fs.size = 4 ∧ Try.prog.cellsOf 23 = fs.size := by
  refine ⟨_, Try.underlying23, ?_, by kernel_rfl, by kernel_rfl⟩
  intro j f hf
  match j, hf with
  | 0, hf => simp at hf; subst hf; exact ⟨rfl, Try.underlying3, by kernel_rfl⟩
  | 1, hf => simp at hf; subst hf; exact ⟨rfl, Try.underlying3, by kernel_rfl⟩
  | 2, hf => simp at hf; subst hf; exact ⟨rfl, Try.underlying3, by kernel_rfl⟩
  | 3, hf => simp at hf; subst hf; exact ⟨rfl, Try.underlying3, by kernel_rfl⟩
  | j + 4, hf => simp at hf
theorem nums_edge : ∃ fs, Try.prog.underlying 36 = some (.struct fs) ∧ Nums Try.prog fs ∧ fs.size = 3 ∧ Try.prog.cellsOf 36 = fs.size := by
  refine ⟨_, Try.underlying36, ?_, by kernel_rfl, by kernel_rfl⟩
  intro j f hf
  match j, hf with
  | 0, hf => simp at hf; subst hf; exact ⟨rfl, Try.underlying3, by kernel_rfl⟩
  | 1, hf => simp at hf; subst hf; exact ⟨rfl, Try.underlying3, by kernel_rfl⟩
  | 2, hf => simp at hf; subst hf; exact ⟨rfl, Try.underlying3, by kernel_rfl⟩
  | j + 3, hf => simp at hf
theorem open_graph {H : Type} {enc : TypeId × Value → H} {w : World} {base b0 : Nat} {spare : Nat → Bool} {held : Bool} {r : Reach} {v : Value} {d : DataW H} {p : List MemPlace} (hv : Value.okWide Try.prog w r b0 29 v)
    (h : DataW.Trod enc Try.prog w base spare held 29 v d p) : ∃ G : Graph w, v = G.v := by
  obtain ⟨v0, v1, y0, y1, n, rfl, _, _, t0, t1⟩ := open_agg2 Try.underlying29 (by kernel_rfl) (by kernel_rfl) hv h
  obtain ⟨fs, he, hn, hs, hC⟩ := nums_node
  obtain ⟨A0, l0, c0, rfl, a0, b0, e0, f0⟩ := open_nodes Try.underlying26 he hn hs hC t0
  obtain ⟨fs, he, hn, hs, hC⟩ := nums_edge
  obtain ⟨A1, l1, c1, rfl, a1, b1, e1, f1⟩ := open_edges Try.underlying27 he hn hs hC t1
  exact ⟨⟨A0, c0, l0, A1, c1, l1, e0, a0, e1, a1, b0, b1, f0, f1⟩, rfl⟩
theorem open_node {H : Type} {enc : TypeId × Value → H} {w : World} {base b0 : Nat} {spare : Nat → Bool} {held : Bool} {r : Reach} {v : Value} {d : DataW H} {p : List MemPlace} (hv : Value.okWide Try.prog w r b0 23 v)
    (h : DataW.Trod enc Try.prog w base spare held 23 v d p) : ∃ a b c e : Int, v = .agg #[.int .i64 a, .int .i64 b, .int .i64 c, .int .i64 e] ∧ Wf a ∧ Wf b ∧ Wf c ∧ Wf e := by
  obtain ⟨v0, v1, v2, v3, y0, y1, y2, y3, n, rfl, _, _, t0, t1, t2, t3⟩ := open_agg4 Try.underlying23 (by kernel_rfl) (by kernel_rfl) hv h
  obtain ⟨a, ha, _, wa⟩ := DataW.trod_int Try.underlying3 t0
  obtain ⟨b, hb, _, wb⟩ := DataW.trod_int Try.underlying3 t1
  obtain ⟨c, hc, _, wc⟩ := DataW.trod_int Try.underlying3 t2
  obtain ⟨e, he, _, we⟩ := DataW.trod_int Try.underlying3 t3
  injection ha with ha _
  injection hb with hb _
  injection hc with hc _
  injection he with he _
  exact ⟨a, b, c, e, by rw [ha, hb, hc, he], wa, wb, wc, we⟩
theorem open_loc {H : Type} {enc : TypeId × Value → H} {w : World} {base b0 : Nat} {spare : Nat → Bool} {held : Bool} {r : Reach} {v : Value} {d : DataW H} {p : List MemPlace} (hv : Value.okWide Try.prog w r b0 47 v)
    (h : DataW.Trod enc Try.prog w base spare held 47 v d p) : ∃ a b : Int, v = .agg #[.int .i64 a, .int .i64 b] ∧ Wf a ∧ Wf b := by
  obtain ⟨v0, v1, y0, y1, n, rfl, _, _, t0, t1⟩ := open_agg2 Try.underlying47 (by kernel_rfl) (by kernel_rfl) hv h
  obtain ⟨a, ha, _, wa⟩ := DataW.trod_int Try.underlying3 t0
  obtain ⟨b, hb, _, wb⟩ := DataW.trod_int Try.underlying3 t1
  injection ha with ha _
  injection hb with hb _
  exact ⟨a, b, by rw [ha, hb], wa, wb⟩
end Go.Proofs.Ytjlnjlnecipllaa.GOpen
