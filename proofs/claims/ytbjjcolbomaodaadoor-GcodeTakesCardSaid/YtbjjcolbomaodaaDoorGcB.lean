import Derived.Test.YtbjjcolbomaodaaDoorProg
import Derived.Test.YtbjjcolbomaodaaDoorWAll
import Derived.StillTailTactics
import Derived.Lib.Hide
import Derived.WalkKit
import Derived.BigCall
import Derived.Laws.BitsLemmas
namespace Go.Proofs.YtbjjcolbomaodaaDoor.Gc
open Go Go.Proofs Go.RowKit Go.Proofs.YtbjjcolbomaodaaDoorW.PrintWords
/-- The first of what is still to be read; 0, if there is none. -/
def hd (xs : List Int) : Int := xs.headD 0
/-- The reader stands in block rb: what is still to be read (bytes of w0, that nobody has turned), and whether it is bad. -/
def RSt (w0 : World) (rb : Nat) (bad : Bool) (xs : List Int) (w : World) : Prop :=
  (∃ A c, w.heap[rb]? = some (.cells #[.slice A xs.length c, .bool bad] 47 (0, 0)) ∧ xs.length ≤ c ∧ Kd.C (Kd.int .u8) w0 A xs.length xs) ∧ Below w0.heap.size w0 w ∧ w0.heap.size ≤ rb ∧ ∀ x ∈ xs, 0 ≤ x ∧ x ≤ 255
set_option maxHeartbeats 6400000 in
set_option maxRecDepth 100000 in
theorem rbyte (w0 : World) (rb : Nat) (bad : Bool) (xs : List Int) (w : World) (h : RSt w0 rb bad xs w) :
    Calls Tryd.prog 19 #[.pointer (some ⟨rb, 0, none⟩)] w fun e w' => e = .returned (.int .i64 (hd xs)) ∧ RSt w0 rb (bad || xs.isEmpty) xs.tail w' ∧ KeepBut w w' rb none := by
  obtain ⟨⟨A, c, hb, hc, hC⟩, hB, hr, hx⟩ := h
  cases xs with
  | nil =>
    have c0 : w.cell? ⟨rb, 0, none⟩ = some (.slice A 0 c) := (blk_cell hb 0).trans rfl
    have c1 : w.cell? ⟨rb, 1, none⟩ = some (.bool bad) := (blk_cell hb 1).trans rfl
    have f1 := blk_frozen hb 1
    have HB := Aside0.mk hb
    clear hb
    go_enter Tryd.func19, Tryd.ntmps19
    go_wp2
    go_ret
    refine ⟨rfl, ⟨⟨A, c, ?_, by simp, hC⟩, (hB.setCell (p := ⟨rb, 1, none⟩) hr _), hr, by simp⟩, (KeepBut.refl w rb none).set_ 1 _⟩
    rw [show (bad || ([] : List Int).isEmpty) = true from by simp]
    exact blk_put HB.out 1 _ rfl
  | cons x t =>
    have hx0 := hx x (List.mem_cons_self ..)
    obtain ⟨ad, rfl, hv⟩ := Kd.at_int hC 0 (by omega) (by simp only [List.length_cons]; omega)
    have hv2 : w.cell? ad = some (.int .u8 x) := by
      have := (hB.cell (World.block_lt_of_cell? w0 _ hv)).trans hv
      simpa [Addr.add, rd] using this
    have c0 : w.cell? ⟨rb, 0, none⟩ = some (.slice (some ad) (t.length + 1) c) := (blk_cell hb 0).trans rfl
    have f0 := blk_frozen hb 0
    have HB := Aside0.mk hb
    have hc' : t.length + 1 ≤ c := by simpa using hc
    have hcm' : t.length + 1 ≤ 9223372036854775807 := by have := hC.2.1; simpa using this
    clear hb hv hc
    obtain ⟨x0, x255⟩ := hx0
    have hC2 := Kd.C_drop (m := 1) hC (by simp only [List.length_cons]; omega) (show (x :: t).length ≤ c by simpa using hc')
    have hx2 : ∀ y ∈ t, 0 ≤ y ∧ y ≤ 255 := fun y hy => hx y (List.mem_cons_of_mem _ hy)
    by_cases h1 : c = 1
    · subst h1
      rw [if_pos rfl] at hC2
      have hl : t.length = 0 := by omega
      go_enter Tryd.func19, Tryd.ntmps19
      go_wp2
      all_goals (
        go_ret
        refine ⟨rfl, ⟨⟨some ad, 0, ?_, by show t.length ≤ 0; omega, hC2⟩, (hB.setCell (p := ⟨rb, 0, none⟩) hr _), hr, hx2⟩, (KeepBut.refl w rb none).set_ 0 _⟩
        rw [show (bad || (x :: t).isEmpty) = bad from by simp]
        exact blk_put HB.out 0 _ (by simp [hl]))
    · rw [if_neg h1] at hC2
      go_enter Tryd.func19, Tryd.ntmps19
      go_wp2
      all_goals (
        go_ret
        refine ⟨rfl, ⟨⟨some ⟨ad.block, ad.off + 1, none⟩, c - 1, ?_, by show t.length ≤ c - 1; omega, hC2⟩, (hB.setCell (p := ⟨rb, 0, none⟩) hr _), hr, hx2⟩, (KeepBut.refl w rb none).set_ 0 _⟩
        rw [show (bad || (x :: t).isEmpty) = bad from by simp]
        exact blk_put HB.out 0 _ (by simp))
def num2 (x y : Int) : Int := if 128 ≤ x then x * 256 + y - 65536 else x * 256 + y
theorem or8 (x y : Int) (x0 : 0 ≤ x) (x1 : x ≤ 255) (y0 : 0 ≤ y) (y1 : y ≤ 255) : bits BinOp.or IntKind.i64 (x * 256) y = x * 256 + y :=
  bits_join .i64 16 (by decide) (fun n h0 h1 => by rw [IntKind.wrap_i64]; omega) 8 (x * 256) y (by omega) (by omega) (by omega) y0 (by omega) (by omega)
theorem num2_wrap (x y : Int) (x0 : 0 ≤ x) (x1 : x ≤ 255) (y0 : 0 ≤ y) (y1 : y ≤ 255) : wrap64 (IntKind.i16.wrap (bits BinOp.or IntKind.i64 (x * 256) y)) = num2 x y := by
  rw [or8 x y x0 x1 y0 y1]
  have e : IntKind.i16.wrap (x * 256 + y) = num2 x y := by
    unfold num2
    simp [IntKind.wrap, IntKind.bits, IntKind.signed]
    split <;> split <;> omega
  rw [e]
  unfold num2 wrap64
  split <;> omega
set_option maxHeartbeats 6400000 in
set_option maxRecDepth 100000 in
theorem rtwo (w0 : World) (rb : Nat) (bad : Bool) (xs : List Int) (w : World) (h : RSt w0 rb bad xs w) :
    Calls Tryd.prog 20 #[.pointer (some ⟨rb, 0, none⟩)] w fun e w' => e = .returned (.int .i64 (num2 (hd xs) (hd xs.tail))) ∧ RSt w0 rb ((bad || xs.isEmpty) || xs.tail.isEmpty) xs.tail.tail w' ∧ KeepBut w w' rb none := by
  have hx : 0 ≤ hd xs ∧ hd xs ≤ 255 := by
    cases xs with
    | nil => exact ⟨Int.le_refl 0, by decide⟩
    | cons x t => exact h.2.2.2 x (List.mem_cons_self ..)
  have hy : 0 ≤ hd xs.tail ∧ hd xs.tail ≤ 255 := by
    cases xs with
    | nil => exact ⟨Int.le_refl 0, by decide⟩
    | cons x t =>
      cases t with
      | nil => exact ⟨Int.le_refl 0, show (0 : Int) ≤ 255 by decide⟩
      | cons y t => exact h.2.2.2 y (List.mem_cons_of_mem _ (List.mem_cons_self ..))
  have H := Aside0.mk h
  clear h
  obtain ⟨x, ex⟩ : ∃ x, x = hd xs := ⟨_, rfl⟩
  obtain ⟨y, ey⟩ : ∃ y, y = hd xs.tail := ⟨_, rfl⟩
  have EX := Aside0.mk ex
  have EY := Aside0.mk ey
  rw [← ex] at hx
  rw [← ey] at hy
  obtain ⟨x0, x1⟩ := hx
  obtain ⟨y0, y1⟩ := hy
  rw [← ex, ← ey]
  clear ex ey
  go_enter Tryd.func20, Tryd.ntmps20
  go_wp2_with (go_at_call 19; refine (rbyte w0 rb bad xs _ H.out).mono ?_; rintro e w1 ⟨rfl, h1, k1⟩; replace h1 := Aside0.mk h1; replace k1 := Aside0.mk k1; rw [← EX.out]; refine Hid.out ?_)
  refine Lib.hid ?_
  go_wp2_with (go_at_call 19; refine (rbyte w0 rb _ xs.tail _ h1.out).mono ?_; rintro e w2 ⟨rfl, h2, k2⟩; replace h2 := Aside0.mk h2; replace k2 := Aside0.mk k2; rw [← EY.out])
  go_ret
  exact ⟨congrArg (fun z => Ending.returned (Value.int .i64 z)) (num2_wrap x y x0 x1 y0 y1), h2.out, k1.out.trans k2.out (.inl rfl)⟩
end Go.Proofs.YtbjjcolbomaodaaDoor.Gc
