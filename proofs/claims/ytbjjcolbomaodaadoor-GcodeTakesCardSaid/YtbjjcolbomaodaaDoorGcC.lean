import Derived.Test.YtbjjcolbomaodaaDoorShelf2
import Derived.Test.YtbjjcolbomaodaaDoorGcB
namespace Go.Proofs.YtbjjcolbomaodaaDoor.Gc
open Go Go.Proofs Go.RowKit Go.Proofs.YtbjjcolbomaodaaDoorW.PrintWords
def isMG (xs : List Int) : Bool := decide (xs.take 2 = [77, 71])
def restMG (xs : List Int) : List Int := if isMG xs = true then xs.drop 2 else xs
theorem mg_prefix (xs : List Int) (hx : ∀ x ∈ xs, 0 ≤ x ∧ x ≤ 255) : Lib.hasPrefix (Lib.bytesOf xs) (Lib.bytesOf [77, 71]) = isMG xs := by
  unfold Lib.hasPrefix Lib.bytesOf isMG
  have key : ∀ x : Int, 0 ≤ x ∧ x ≤ 255 → ∀ k : Nat, k < 256 → ((UInt8.ofNat k == UInt8.ofNat x.toNat) = decide (x = (k : Int))) := by
    intro x h k hk
    rw [Bool.eq_iff_iff, beq_iff_eq, decide_eq_true_iff]
    constructor
    · intro e
      have e2 := congrArg UInt8.toNat e
      rw [UInt8.toNat_ofNat', UInt8.toNat_ofNat'] at e2
      omega
    · rintro rfl
      rfl
  cases xs with
  | nil => rfl
  | cons x t =>
    cases t with
    | nil => simp [List.isPrefixOf]
    | cons y u =>
      have kx := key x (hx x (List.mem_cons_self ..)) 77 (by decide)
      have ky := key y (hx y (List.mem_cons_of_mem _ (List.mem_cons_self ..))) 71 (by decide)
      have kx' : (UInt8.ofNat (77 : Int).toNat == UInt8.ofNat x.toNat) = decide (x = 77) := kx
      have ky' : (UInt8.ofNat (71 : Int).toNat == UInt8.ofNat y.toNat) = decide (y = 71) := ky
      simp only [List.map_cons, List.map_nil, List.isPrefixOf, kx', ky', List.take_succ_cons, List.take_zero, List.cons.injEq, and_true]
      simp
theorem bytesIn {w : World} {A : Option Addr} {xs : List Int} (h : Kd.C (Kd.int .u8) w A xs.length xs) : Lib.BytesIn w A xs.length xs := by
  intro hn
  obtain ⟨ad, rfl, _⟩ := Kd.at_int h 0 (by omega) (by omega)
  refine Lib.BytesIn.of_cells (fun i hi => ?_) hn
  obtain ⟨ad', e, hv⟩ := Kd.at_int h (i : Int) (by omega) (by omega)
  injection e with e
  subst e
  simpa [rd] using hv
theorem cutMG (w : World) (A : Option Addr) (c N : Nat) (xs : List Int) (hC : Kd.C (Kd.int .u8) w A xs.length xs) (hc : xs.length ≤ c) (hx : ∀ x ∈ xs, 0 ≤ x ∧ x ≤ 255)
    (hN : ∀ i : Nat, i < 2 → w.cell? ⟨N, i, none⟩ = some (.int .u8 (([77, 71] : List Int).getD i 0))) :
    Calls Tryd.prog 18 #[.slice A xs.length c, .slice (some ⟨N, 0, none⟩) 2 2] w fun e w' => ∃ A' c', e = .returned (.tuple #[.slice A' (restMG xs).length c', .bool (isMG xs)]) ∧ w' = w ∧ (restMG xs).length ≤ c' ∧ Kd.C (Kd.int .u8) w A' (restMG xs).length (restMG xs) := by
  refine (Tryd.bytes_CutPrefix_all A (some ⟨N, 0, none⟩) xs.length c 2 2 xs [77, 71] w rfl rfl hc (bytesIn hC) (Lib.BytesIn.of_cells (a := ⟨N, 0, none⟩) (fun i hi => ?_))).mono ?_
  · have e : (⟨N, 0, none⟩ : Addr).add i = ⟨N, i, none⟩ := by rw [Go.WideShapes.add_plain]; simp
    rw [e]
    exact hN i hi
  · rintro e w' ⟨rfl, rfl⟩
    rw [mg_prefix xs hx]
    cases hm : isMG xs with
    | false =>
      refine ⟨A, c, ?_, rfl, ?_, ?_⟩
      · have e1 : restMG xs = xs := by unfold restMG; rw [hm]; rfl
        rw [e1]
        have e2 : Lib.trimPrefixV A xs.length c xs [77, 71] = .slice A xs.length c := by
          unfold Lib.trimPrefixV
          split
          · unfold Lib.bytesTrimPrefix
            rename_i heq
            simp only [heq]
            rw [← heq, mg_prefix xs hx, hm]
            rfl
          · rfl
        rw [e2]
      · unfold restMG; rw [hm]; exact hc
      · unfold restMG; rw [hm]; exact hC
    | true =>
      have hl : 2 ≤ xs.length := by
        have h1 : xs.take 2 = [77, 71] := of_decide_eq_true hm
        have h2 := congrArg List.length h1
        rw [List.length_take] at h2
        simp at h2
        omega
      obtain ⟨b, o, hA, _⟩ := (bytesIn hC).at (by omega)
      subst hA
      have e1 : restMG xs = xs.drop 2 := by unfold restMG; rw [hm]; rfl
      have e2 : Lib.trimPrefixV (some ⟨b, o, none⟩) xs.length c xs [77, 71] = Lib.sliceFrom b o xs.length c 2 := by
        show Lib.bytesTrimPrefix b o xs.length c xs [77, 71] = _
        unfold Lib.bytesTrimPrefix
        rw [mg_prefix xs hx, hm]
        rfl
      have hd := Kd.C_drop (m := 2) hC hl hc
      rw [e1, e2]
      have hlen : (xs.drop 2).length = xs.length - 2 := List.length_drop
      by_cases h2 : c = 2
      · rw [if_pos h2] at hd
        refine ⟨_, c - 2, ?_, rfl, by omega, hd⟩
        unfold Lib.sliceFrom
        rw [hlen]
        simp [h2]
      · rw [if_neg h2] at hd
        refine ⟨_, c - 2, ?_, rfl, by omega, hd⟩
        unfold Lib.sliceFrom
        rw [hlen]
        simp [h2, Addr.add, show (Kd.int IntKind.u8).sz = 1 from rfl]
section
variable {w0 w w' : World} {rb : Nat} {bad : Bool} {xs : List Int}
theorem RSt.of (h : RSt w0 rb bad xs w) (hb : w'.heap[rb]? = w.heap[rb]?) (hB : Below w0.heap.size w0 w') : RSt w0 rb bad xs w' := by
  obtain ⟨⟨A, c, h1, h2, h3⟩, _, h5, h6⟩ := h
  exact ⟨⟨A, c, hb.trans h1, h2, h3⟩, hB, h5, h6⟩
theorem RSt.blk (h : RSt w0 rb bad xs w) : ∃ cs, w.heap[rb]? = some (.cells cs 47 (0, 0)) := by
  obtain ⟨⟨A, c, h1, _⟩, _⟩ := h
  exact ⟨_, h1⟩
theorem RSt.lt (h : RSt w0 rb bad xs w) : rb < w.heap.size := by
  obtain ⟨_, h1⟩ := h.blk
  exact blk_lt h1
theorem RSt.alloc (h : RSt w0 rb bad xs w) (o : Obj) : RSt w0 rb bad xs (w.alloc o) :=
  h.of (Below.heap_alloc _ _ _ h.lt) (h.2.1.alloc h.2.1.size o)
theorem RSt.drew (h : RSt w0 rb bad xs w) : RSt w0 rb bad xs w.drew := h.of rfl h.2.1.drew
theorem RSt.set (h : RSt w0 rb bad xs w) {p : Addr} (hp : rb ≠ p.block) (hq : w0.heap.size ≤ p.block) (u : Value) : RSt w0 rb bad xs (w.setCell p u) :=
  h.of (Below.heap_setCell w p u rb hp) (h.2.1.setCell hq u)
theorem RSt.grown (h : RSt w0 rb bad xs w) {row : Option Nat} (hg : w.grownBy w' row) (hne : some rb ≠ row) (hB : Below w0.heap.size w0 w') : RSt w0 rb bad xs w' :=
  h.of (hg.block rb h.lt hne) hB
theorem RSt.bad1 (h : RSt w0 rb bad xs w) : w.cell? ⟨rb, 1, none⟩ = some (.bool bad) := by
  obtain ⟨⟨A, c, h1, _⟩, _⟩ := h
  exact (blk_cell h1 1).trans rfl
theorem RSt.row {α : Type} {d : Kd α} {e base : Nat} {v : Value} {ys : List α} (h : RSt w0 rb bad xs w) (hr : d.R e w base (fun _ => True) v ys) (ht : ∀ q, q ∈ e :: d.E → q ≠ 47) (k : KeepBut w w' rb none) : d.R e w' base (fun _ => True) v ys := by
  obtain ⟨cs, hb⟩ := h.blk
  exact Kd.R_mono (Kd.R_keep (Kd.R_types hr hb ht) k (fun _ hk => hk.2)) (fun _ _ => trivial)
theorem RSt.rowne {α : Type} {d : Kd α} {e base : Nat} {v : Value} {ys : List α} {ok : Nat → Prop} (h : RSt w0 rb bad xs w) (hr : d.R e w base ok v ys) (ht : e ≠ 47) : some rb ≠ v.ownBlock := by
  obtain ⟨cs, hb⟩ := h.blk
  exact Kd.R_ne hr hb ht
end
end Go.Proofs.YtbjjcolbomaodaaDoor.Gc
