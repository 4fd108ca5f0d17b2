import Derived.Test.YtbjjcolbomaodaaDoorShelf
import Derived.Test.YtbjjcolbomaodaaDoorWAll
import Derived.StillTailTactics
import Derived.Lib.Hide
import Derived.Lib.Strings
import Derived.WalkKit
import Derived.BigCall
namespace Go.Proofs.YtbjjcolbomaodaaDoor.Gc
open Go Go.Proofs Go.Shelf Go.RowKit
def RB (bad : Bool) : Nat → Option Value := fun j => if j = 3 then some (.bool bad) else none
abbrev Buf (B b : Nat) (bad : Bool) (bs : List Value) (w : World) : Prop := LibA.IsBuffer 55 (RB bad) 5 B b 0 bs w
theorem Buf.store {B b : Nat} {bad : Bool} {bs : List Value} {w : World} (h : Buf B b bad bs w) (v : Bool) :
    Buf B b v bs (w.setCell ⟨b, 3, none⟩ (.bool v)) ∧ Below B w (w.setCell ⟨b, 3, none⟩ (.bool v)) ∧ Lib.OthersKept 5 (some b) w (w.setCell ⟨b, 3, none⟩ (.bool v)) := by
  have h2 := h.setOther 3 (Or.inr (by omega)) (old := .bool bad) rfl (.bool v)
  refine ⟨?_, (Below.refl B w).setCell (p := ⟨b, 3, none⟩) h.1 _, (Lib.OthersKept.refl _ _ w).setCell ⟨b, 3, none⟩ rfl _⟩
  have e : (fun j => if j = 3 then some (Value.bool v) else RB bad j) = RB v := by
    funext j
    unfold RB
    split <;> rfl
  rw [e] at h2
  exact h2
theorem one_app {a c : List Value} (ha : ∀ v ∈ a, v.oneCell' = true) (hc : ∀ v ∈ c, v.oneCell' = true) : ∀ v ∈ a ++ c, v.oneCell' = true := fun v hv => by
  rcases List.mem_append.1 hv with h | h
  · exact ha v h
  · exact hc v h
set_option maxHeartbeats 6400000 in
set_option maxRecDepth 100000 in
/-- writer.byte: a number's last eight bits behind what was laid; bad, if it has more. -/
theorem wbyte (B b : Nat) (bad : Bool) (bs : List Value) (x : Int) (w : World) (h : Buf B b bad bs w) (hBw : B ≤ w.heap.size) (h1 : ∀ v ∈ bs, v.oneCell' = true) (hlim : bs.length + 1 ≤ 140737488355328) :
    Calls Tryd.prog 24 #[.pointer (some ⟨b, 0, none⟩), .int .i64 x] w fun e w' => e = .returned (.tuple #[]) ∧ Buf B b (bad || decide (x < 0) || decide (255 < x)) (bs ++ [.int .u8 (x % 256)]) w' ∧ Below B w w' ∧ Lib.OthersKept 5 (some b) w w' := by
  have c3 : w.cell? ⟨b, 3, none⟩ = some (.bool bad) := h.rest 3 (Or.inr (by omega))
  have f3 : w.frozen? ⟨b, 3, none⟩ = false := h.notFrozen 3
  have hst := h.store
  have hsz : ∀ v, B ≤ (w.setCell ⟨b, 3, none⟩ (.bool v)).heap.size := fun v => by simpa [World.setCell] using hBw
  cases bad
  · by_cases h0 : x < 0
    · have d0 : decide (x < 0) = true := decide_eq_true h0
      go_enter Tryd.func24, Tryd.ntmps24
      go_wp2_with (go_at_call 38; refine (Tryd.Buffer_WriteByte_at 55 _ B b 0 bs (x % 256) _ (hst _).1 (hsz _) h1 hlim).mono ?_; rintro e w2 ⟨rfl, i2, b2, k2⟩)
      go_end0
      rw [d0]
      exact ⟨rfl, i2, (hst _).2.1.trans b2, (hst _).2.2.trans k2⟩
    · have d0 : decide (x < 0) = false := decide_eq_false h0
      by_cases h255 : 255 < x
      · have d1 : decide (255 < x) = true := decide_eq_true h255
        go_enter Tryd.func24, Tryd.ntmps24
        go_wp2_with (go_at_call 38; refine (Tryd.Buffer_WriteByte_at 55 _ B b 0 bs (x % 256) _ (hst _).1 (hsz _) h1 hlim).mono ?_; rintro e w2 ⟨rfl, i2, b2, k2⟩)
        go_end0
        rw [d0, d1]
        exact ⟨rfl, i2, (hst _).2.1.trans b2, (hst _).2.2.trans k2⟩
      · have d1 : decide (255 < x) = false := decide_eq_false h255
        have d3 : x % 256 = x := Int.emod_eq_of_lt (by omega) (by omega)
        rw [d3, d0, d1]
        go_enter Tryd.func24, Tryd.ntmps24
        go_wp2_with (go_at_call 38; refine (Tryd.Buffer_WriteByte_at 55 _ B b 0 bs x _ (hst _).1 (hsz _) h1 hlim).mono ?_; rintro e w2 ⟨rfl, i2, b2, k2⟩)
        go_end0
        exact ⟨rfl, i2, (hst _).2.1.trans b2, (hst _).2.2.trans k2⟩
  · go_enter Tryd.func24, Tryd.ntmps24
    go_wp2_with (go_at_call 38; refine (Tryd.Buffer_WriteByte_at 55 _ B b 0 bs (x % 256) _ (hst _).1 (hsz _) h1 hlim).mono ?_; rintro e w2 ⟨rfl, i2, b2, k2⟩)
    go_end0
    exact ⟨rfl, i2, (hst _).2.1.trans b2, (hst _).2.2.trans k2⟩

theorem src2 {W : World} {u v : Value} {N : Nat} (hN : W.heap.size = N) : ∀ j x, [u, v][j]? = some x → (W.alloc (.cells #[u, v] 5)).cell? ((⟨N, 0, none⟩ : Addr).add j) = some x := by
  subst hN
  have hb : (W.alloc (.cells #[u, v] 5)).heap[W.heap.size]? = some (.cells #[u, v] 5 (0, 0)) := heap_alloc_new W _
  intro j x hj
  have e : (⟨W.heap.size, 0, none⟩ : Addr).add j = ⟨W.heap.size, j, none⟩ := by
    unfold Addr.add
    split
    · rename_i h0
      rw [h0]
    · simp
  rw [e, Lib.cell_of_heap hb]
  simpa using hj
theorem two_bad (x : Int) : (x != wrap64 (IntKind.i16.wrap x)) = (decide (x < -32768) || decide (32767 < x)) := by
  have e : wrap64 (IntKind.i16.wrap x) = IntKind.i16.wrap x := by
    simp only [wrap64, IntKind.wrap, IntKind.bits, IntKind.signed] <;> simp <;> split <;> omega
  rw [e, Bool.eq_iff_iff]
  simp only [bne_iff_ne, ne_eq, Bool.or_eq_true, decide_eq_true_eq]
  simp [IntKind.wrap, IntKind.bits, IntKind.signed]
  split <;> omega
set_option maxHeartbeats 6400000 in
set_option maxRecDepth 100000 in
/-- writer.two: a number's last sixteen bits; bad, if it has more. -/
theorem wtwo (B b : Nat) (bad : Bool) (bs : List Value) (x : Int) (w : World) (h : Buf B b bad bs w) (hBw : B ≤ w.heap.size) (h1 : ∀ v ∈ bs, v.oneCell' = true) (hlim : bs.length + 2 ≤ 140737488355328) :
    Calls Tryd.prog 25 #[.pointer (some ⟨b, 0, none⟩), .int .i64 x] w fun e w' => e = .returned (.tuple #[]) ∧ Buf B b (bad || decide (x < -32768) || decide (32767 < x)) (bs ++ [.int .u8 (x / 256 % 256), .int .u8 (x % 256)]) w' ∧ Below B w w' ∧ Lib.OthersKept 5 (some b) w w' := by
  have c3 : w.cell? ⟨b, 3, none⟩ = some (.bool bad) := h.rest 3 (Or.inr (by omega))
  have f3 : w.frozen? ⟨b, 3, none⟩ = false := h.notFrozen 3
  have hst := h.store
  have hz : ∀ v, (w.setCell ⟨b, 3, none⟩ (.bool v)).heap.size = w.heap.size := fun v => by simp [World.setCell]
  have hsz : ∀ v o, B ≤ ((w.setCell ⟨b, 3, none⟩ (.bool v)).alloc o).heap.size := fun v o => by simp [World.alloc, hz]; omega
  have hbl := h.lt
  have hne : w.heap.size ≠ b := by omega
  have ho : ∀ v ∈ [Value.int .u8 (x / 256 % 256), Value.int .u8 (x % 256)], v.oneCell' = true := by simp [Value.oneCell']
  clear h
  rw [Bool.or_assoc, ← two_bad x]
  cases bad
  · go_enter Tryd.func25, Tryd.ntmps25
    go_wp2_with (go_at_call 39; refine (Tryd.Buffer_Write_at 55 _ B b 0 bs [.int .u8 (x / 256 % 256), .int .u8 (x % 256)] ⟨w.heap.size, 0, none⟩ 2 2 _ ((hst _).1.alloc _) (hsz _ _) h1 rfl hne (src2 (hz _)) ho hlim).mono ?_; rintro e w2 ⟨rfl, i2, b2, k2⟩)
    go_end0
    exact ⟨rfl, i2, ((hst _).2.1.alloc (by rw [hz]; exact hBw) _).trans b2, ((hst _).2.2.alloc _).trans k2⟩
  · go_enter Tryd.func25, Tryd.ntmps25
    go_wp2_with (go_at_call 39; refine (Tryd.Buffer_Write_at 55 _ B b 0 bs [.int .u8 (x / 256 % 256), .int .u8 (x % 256)] ⟨w.heap.size, 0, none⟩ 2 2 _ ((hst _).1.alloc _) (hsz _ _) h1 rfl hne (src2 (hz _)) ho hlim).mono ?_; rintro e w2 ⟨rfl, i2, b2, k2⟩)
    go_end0
    exact ⟨rfl, i2, ((hst _).2.1.alloc (by rw [hz]; exact hBw) _).trans b2, ((hst _).2.2.alloc _).trans k2⟩
set_option maxHeartbeats 6400000 in
set_option maxRecDepth 100000 in
/-- (*bytes.Buffer).Bytes of a buffer that is a field: a slice that owns what was laid. -/
theorem bytesAt (B b : Nat) (bad : Bool) (bs : List Value) (w : World) (h : Buf B b bad bs w) :
    Calls Tryd.prog 26 #[.pointer (some ⟨b, 0, none⟩)] w fun e w' => ∃ v, e = .returned v ∧ w'.ownsRow B 5 1 v bs.length bs ∧ Below B w w' := by
  have mixed : Tryd.prog.follows Departure.mixedOrders = true := by kernel_rfl
  obtain ⟨hB, lr, hc⟩ := h.cases
  rcases hc with ⟨hnil, hbk⟩ | ⟨g, cap, cur, hbk, hBg, hg, hnc, hcm, hcs, htk, hgb⟩
  · subst hnil
    have c0 : w.cell? ⟨b, 0, none⟩ = some (.slice none 0 0) := hbk.c0
    have c1 : w.cell? ⟨b, 1, none⟩ = some (.int .i64 0) := hbk.c1
    go_enter Tryd.func26, Tryd.ntmps26
    go_wp2
    go_region_o
    all_goals (go_wp2; go_ret; exact ⟨_, rfl, World.ownsRow_nil _ _ _ _, (Below.refl B w).drew⟩)
  · have c0 : w.cell? ⟨b, 0, none⟩ = some (.slice (some ⟨g, 0, none⟩) bs.length cap) := hbk.c0
    have c1 : w.cell? ⟨b, 1, none⟩ = some (.int .i64 0) := hbk.c1
    have hcm' := hcm
    unfold maxLen at hcm'
    go_enter Tryd.func26, Tryd.ntmps26
    go_wp2
    go_region_o
    all_goals (go_wp2; go_ret; exact ⟨_, rfl, ⟨by simp, .inr ⟨g, cap, cur, rfl, hBg, hg, hnc, hcm, by simpa using hcs, by simpa using htk⟩⟩, (Below.refl B w).drew⟩)

open Go.Proofs.YtbjjcolbomaodaaDoorW.PrintWords
def enc8 (bs : List Int) : List Value := bs.map (Value.int .u8)
theorem enc8_one (bs : List Int) : ∀ v ∈ enc8 bs, v.oneCell' = true := by
  intro v hv
  obtain ⟨x, _, rfl⟩ := List.mem_map.1 hv
  rfl
theorem enc8_len (bs : List Int) : (enc8 bs).length = bs.length := by simp [enc8]
/-- What stands between two calls: the buffer holds bs; below b (the writer's block) all is as in W0. -/
def St (b : Nat) (W0 : World) (bad : Bool) (bs : List Int) (w : World) : Prop := Buf b b bad (enc8 bs) w ∧ Below b W0 w ∧ b < W0.heap.size
theorem St.lt {b : Nat} {W0 : World} {bad : Bool} {bs : List Int} {w : World} (h : St b W0 bad bs w) : b < w.heap.size := Nat.lt_of_lt_of_le h.2.2 h.2.1.size
theorem St.alloc {b : Nat} {W0 : World} {bad : Bool} {bs : List Int} {w : World} (h : St b W0 bad bs w) (o : Obj) : St b W0 bad bs (w.alloc o) :=
  ⟨h.1.alloc o, h.2.1.alloc (Nat.le_of_lt h.lt) o, h.2.2⟩
def bad1 (x : Int) : Bool := decide (x < 0) || decide (255 < x)
def bad2 (x : Int) : Bool := decide (x < -32768) || decide (32767 < x)
theorem St.byte {b : Nat} {W0 : World} {bad : Bool} {bs : List Int} {w : World} (h : St b W0 bad bs w) (x : Int) (hlim : bs.length + 1 ≤ 140737488355328) :
    Calls Tryd.prog 24 #[.pointer (some ⟨b, 0, none⟩), .int .i64 x] w fun e w' => e = .returned (.tuple #[]) ∧ St b W0 (bad || bad1 x) (bs ++ [x % 256]) w' ∧ Lib.OthersKept 5 (some b) w w' := by
  refine (wbyte b b bad _ x w h.1 (Nat.le_of_lt h.lt) (enc8_one bs) (by rw [enc8_len]; exact hlim)).mono ?_
  rintro e w' ⟨rfl, h1, h2, h3⟩
  refine ⟨rfl, ⟨?_, h.2.1.trans h2, h.2.2⟩, h3⟩
  rw [Bool.or_assoc] at h1
  simpa [enc8, bad1] using h1
theorem St.two {b : Nat} {W0 : World} {bad : Bool} {bs : List Int} {w : World} (h : St b W0 bad bs w) (x : Int) (hlim : bs.length + 2 ≤ 140737488355328) :
    Calls Tryd.prog 25 #[.pointer (some ⟨b, 0, none⟩), .int .i64 x] w fun e w' => e = .returned (.tuple #[]) ∧ St b W0 (bad || bad2 x) (bs ++ [x / 256 % 256, x % 256]) w' ∧ Lib.OthersKept 5 (some b) w w' := by
  refine (wtwo b b bad _ x w h.1 (Nat.le_of_lt h.lt) (enc8_one bs) (by rw [enc8_len]; exact hlim)).mono ?_
  rintro e w' ⟨rfl, h1, h2, h3⟩
  refine ⟨rfl, ⟨?_, h.2.1.trans h2, h.2.2⟩, h3⟩
  rw [Bool.or_assoc] at h1
  simpa [enc8, bad2] using h1
theorem St.magic {b : Nat} {W0 : World} {w : World} (h : St b W0 false [] w) :
    Calls Tryd.prog 23 #[.pointer (some ⟨b, 0, none⟩), .string ⟨#[77, 71]⟩] w fun e w' => e = .returned (.tuple #[.int .i64 2, .nilIface]) ∧ St b W0 false [77, 71] w' := by
  refine (Tryd.Buffer_WriteString_at 55 _ b b 0 [] ⟨#[77, 71]⟩ w h.1 (Nat.le_of_lt h.lt) (by simp) (by decide)).mono ?_
  rintro e w' ⟨rfl, h1, h2, _⟩
  exact ⟨rfl, h1, h.2.1.trans h2, h.2.2⟩
theorem St.result {b : Nat} {W0 : World} {bad : Bool} {bs : List Int} {w : World} (h : St b W0 bad bs w) :
    Calls Tryd.prog 26 #[.pointer (some ⟨b, 0, none⟩)] w fun e w' => ∃ v, e = .returned v ∧ Kd.R (Kd.int .u8) 5 w' b (fun _ => True) v bs ∧ Below b W0 w' := by
  refine (bytesAt b b bad _ w h.1).mono ?_
  rintro e w' ⟨v, rfl, h1, h2⟩
  rw [enc8_len] at h1
  exact ⟨v, rfl, Kd.R_of_own h1 (fun _ _ => trivial), h.2.1.trans h2⟩
/-- A block that is no row of bytes and not the writer's. -/
theorem kept {b n : Nat} {w w' : World} {cs : Array Value} {t : TypeId} (hk : Lib.OthersKept 5 (some b) w w') (h : w.heap[n]? = some (.cells cs t (0, 0))) (hn : n ≠ b) (ht : t ≠ 5) : w'.heap[n]? = some (.cells cs t (0, 0)) :=
  hk n _ h (fun e => hn (Option.some.inj e)) (fun c fz e => by injection e with _ e2 _; exact ht e2)
end Go.Proofs.YtbjjcolbomaodaaDoor.Gc
