import Derived.Test.YtfklojheogidpaaCw
set_option linter.unusedVariables false
set_option linter.unusedSimpArgs false
namespace Go.Proofs.Ytfklojheogidpaa
open Go.RowKit Go.Proofs.YtfklojheogidpaaW.PrintWords Go.Proofs.YtfklojheogidpaaW.PrintLast Go.Proofs.YtfklojheogidpaaW.PrintMore
theorem B8_set (l : List Int) (i : Nat) (x : Int) : (B8 l).setIfInBounds i (.int .u8 x) = B8 (l.set i x) := by
  simp [B8, nums, List.map_set]
theorem b8_cell {w : World} {g : Nat} {t : TypeId} {l : List Int} (h : w.heap[g]? = some (.cells (B8 l) t (0, 0))) (i : Nat) (hi : i < l.length) : w.cell? ⟨g, i, none⟩ = some (.int .u8 (l.getD i 0)) := by
  rw [blk_cell h i]
  simp [B8, nums, List.getD_eq_getElem?_getD, List.getElem?_eq_getElem hi]
theorem b8_set {w : World} {g : Nat} {t : TypeId} {l : List Int} (h : w.heap[g]? = some (.cells (B8 l) t (0, 0))) (i : Nat) (x : Int) : (w.setCell ⟨g, i, none⟩ (.int .u8 x)).heap[g]? = some (.cells (B8 (l.set i x)) t (0, 0)) := by
  rw [← B8_set]; exact blk_set h i _

/-! ### Arrays of bytes in blocks -/
structure AB (W0 : World) (fs : List (Nat × List Int)) (w : World) : Prop where
  below : Below W0.heap.size W0 w
  facts : ∀ y ∈ fs, W0.heap.size ≤ y.1 ∧ w.heap[y.1]? = some (.cells (B8 y.2) 50 (0, 0))
section
variable {W0 w w' : World} {fs : List (Nat × List Int)}
theorem AB.call (h : AB W0 fs w) (hb : Below w.heap.size w w') : AB W0 fs w' := ⟨h.below.trans (hb.mono h.below.size), fun y hy => ⟨(h.facts y hy).1, (hb.block _ (blk_lt (h.facts y hy).2)).trans (h.facts y hy).2⟩⟩
theorem AB.drew (h : AB W0 fs w) : AB W0 fs w.drew := h.call (Below.refl _ _).drew
theorem AB.get (h : AB W0 fs w) (b : Nat) (l : List Int) (hm : (b, l) ∈ fs) : w.heap[b]? = some (.cells (B8 l) 50 (0, 0)) := (h.facts (b, l) hm).2
theorem AB.row (h : AB W0 fs w) (b : Nat) (l : List Int) (hm : (b, l) ∈ fs) (hl : l.length = 32) : RC w (some ⟨b, 0, none⟩) 32 l := ⟨by
  have := C_piece (h.get b l hm) 0 32 (by omega) (by omega)
  rwa [List.drop_zero, List.take_of_length_le (by omega)] at this⟩
theorem AB.add (h : AB W0 fs w) {b : Nat} {l : List Int} (hb : W0.heap.size ≤ b) (hf : w.heap[b]? = some (.cells (B8 l) 50 (0, 0))) : AB W0 ((b, l) :: fs) w := ⟨h.below, fun y hy => by
  rcases List.mem_cons.1 hy with rfl | hy
  · exact ⟨hb, hf⟩
  · exact h.facts y hy⟩
theorem AB.put {b : Nat} {l : List Int} (h : AB W0 ((b, l) :: fs) w) (hn : ∀ y ∈ fs, y.1 ≠ b) (i : Nat) (x : Int) : AB W0 ((b, l.set i x) :: fs) (w.setCell ⟨b, i, none⟩ (.int .u8 x)) :=
  ⟨h.below.setCell (h.facts (b, l) (List.mem_cons_self ..)).1 _, fun y hy => by
    rcases List.mem_cons.1 hy with rfl | hy
    · exact ⟨(h.facts (b, l) (List.mem_cons_self ..)).1, b8_set (h.get b l (List.mem_cons_self ..)) i x⟩
    · exact ⟨(h.facts y (List.mem_cons_of_mem _ hy)).1, blk_far (h.facts y (List.mem_cons_of_mem _ hy)).2 (hn y hy) _⟩⟩
theorem AB.swap {x y : Nat × List Int} (h : AB W0 [x, y] w) : AB W0 [y, x] w := ⟨h.below, fun z hz => h.facts z (by simp only [List.mem_cons, List.not_mem_nil, or_false] at hz ⊢; exact hz.symm)⟩
end
theorem k42 (k u : List Int) (hk : k.length = 32) (hu : u.length = 32) (hb : Bytes k) (hub : Bytes u) (r : List Int) (hr : smul k u = r) (w : World) {A B : Option Addr} {c d : Nat} (hc : 32 ≤ c) (h : RC w A 32 k) (h2 : RC w B 32 u) :
    Calls Try.prog 42 #[.slice A 32 c, .slice B 32 d] w fun e w' => ∃ A' c', e = .returned (.tuple #[.slice A' 32 c', .int .i64 0]) ∧ RC w' A' 32 r ∧ 32 ≤ c' ∧ Below w.heap.size w w' := by
  subst hr
  exact scalar_any k u A B c d w h.r hc hb hk h2.r hub hu
theorem k42o (k u : List Int) (hk : k.length = 32) (hu : u.length = 32) (hb : Bytes k) (hub : Bytes u) (r : List Int) (hr : smul k u = r) (w : World) {A B : Option Addr} {c d : Nat} (hc : 32 ≤ c) (h : RC w A 32 k) (h2 : RC w B 32 u) :
    Calls Try.prog 42 #[.slice A 32 c, .slice B 32 d] w fun e w' => ∃ g c', e = .returned (.tuple #[.slice (some ⟨g, 0, none⟩) 32 c', .int .i64 0]) ∧ RC w' (some ⟨g, 0, none⟩) 32 r ∧ (32 ≤ c' ∧ w.heap.size ≤ g) ∧ Below w.heap.size w w' := by
  subst hr
  exact scalar_own k u A B c d w h.r hc hb hk h2.r hub hu
theorem k46 (k : List Int) (hk : k.length = 32) (hb : Bytes k) (r : List Int) (hr : smul k nine = r) (w : World) {A : Option Addr} {c : Nat} (hc : 32 ≤ c) (h : RC w A 32 k) :
    Calls Try.prog 46 #[.slice A 32 c] w fun e w' => ∃ A' c', e = .returned (.tuple #[.slice A' 32 c', .int .i64 0]) ∧ RC w' A' 32 r ∧ 32 ≤ c' ∧ Below w.heap.size w w' := by
  have := public_out k (A := A) (c := c) w (by rw [hk]; exact h) (by omega) hb
  have e : scalO k nine = (r, 0) := by unfold scalO; rw [if_pos ⟨hk, rfl⟩, hr]
  rw [e, hk] at this
  refine this.mono ?_
  rintro e w' ⟨A', c', rfl, h1, h2, h3⟩
  have hl : r.length = 32 := by rw [← hr]; exact smul_length _ _
  rw [hl] at h1 h2
  exact ⟨A', c', by rw [hl], h1, h2, h3⟩
theorem k47 (k : List Int) (hk : k.length = 32) (hb : Bytes k) (r : List Int) (hr : smul k nine = r) (w : World) {A : Option Addr} {c : Nat} (hc : 32 ≤ c) (h : RC w A 32 k) :
    Calls Try.prog 47 #[.slice A 32 c] w fun e w' => ∃ A' c', e = .returned (.tuple #[.slice A' 32 c', .int .i64 0]) ∧ RC w' A' 32 r ∧ 32 ≤ c' ∧ Below w.heap.size w w' := by
  have := rpublic_out k (A := A) (c := c) w (by rw [hk]; exact h) (by omega) hb
  have e : scalO k nine = (r, 0) := by unfold scalO; rw [if_pos ⟨hk, rfl⟩, hr]
  rw [e, hk] at this
  refine this.mono ?_
  rintro e w' ⟨A', c', rfl, h1, h2, h3⟩
  have hl : r.length = 32 := by rw [← hr]; exact smul_length _ _
  rw [hl] at h1 h2
  exact ⟨A', c', by rw [hl], h1, h2, h3⟩
/-! ### Bits that are set anyhow -/
theorem low_bits (x a : Int) (hx : 0 ≤ x ∧ x < 256) (ha : 0 ≤ a ∧ a ≤ 255) : (0 ≤ bits .xor .u8 x (a % 8) ∧ bits .xor .u8 x (a % 8) < 256) ∧ bits .xor .u8 x (a % 8) / 8 = x / 8 := by
  obtain ⟨n, rfl⟩ := Int.eq_ofNat_of_zero_le hx.1
  obtain ⟨m, rfl⟩ := Int.eq_ofNat_of_zero_le ha.1
  have k2 : ∀ n : Fin 256, ∀ j : Fin 8, (0 ≤ bits .xor .u8 ((n.val : Nat) : Int) ((j.val : Nat) : Int) ∧ bits .xor .u8 ((n.val : Nat) : Int) ((j.val : Nat) : Int) < 256) ∧ bits .xor .u8 ((n.val : Nat) : Int) ((j.val : Nat) : Int) / 8 = ((n.val : Nat) : Int) / 8 := by decide +kernel
  have := k2 ⟨n, by omega⟩ ⟨m % 8, by omega⟩
  exact this
theorem top_bits (x a : Int) (hx : 0 ≤ x ∧ x < 256) (ha : 0 ≤ a ∧ a ≤ 255) : (0 ≤ bits .xor .u8 x (bits .and .u8 a 192) ∧ bits .xor .u8 x (bits .and .u8 a 192) < 256) ∧ bits .xor .u8 x (bits .and .u8 a 192) % 64 = x % 64 := by
  obtain ⟨n, rfl⟩ := Int.eq_ofNat_of_zero_le hx.1
  obtain ⟨m, rfl⟩ := Int.eq_ofNat_of_zero_le ha.1
  have k1 : ∀ m : Fin 256, ∃ j : Fin 4, bits .and .u8 ((m.val : Nat) : Int) 192 = 64 * ((j.val : Nat) : Int) := by decide +kernel
  obtain ⟨j, hj⟩ := k1 ⟨m, by omega⟩
  have k2 : ∀ n : Fin 256, ∀ j : Fin 4, (0 ≤ bits .xor .u8 ((n.val : Nat) : Int) (64 * ((j.val : Nat) : Int)) ∧ bits .xor .u8 ((n.val : Nat) : Int) (64 * ((j.val : Nat) : Int)) < 256) ∧ bits .xor .u8 ((n.val : Nat) : Int) (64 * ((j.val : Nat) : Int)) % 64 = ((n.val : Nat) : Int) % 64 := by decide +kernel
  have := k2 ⟨n, by omega⟩ j
  have hj' : bits .and .u8 (m : Int) 192 = 64 * ((j.val : Nat) : Int) := hj
  rw [hj']
  exact this
theorem clamp_top (k : List Int) (x y : Int) (hk : k.length = 32) (hx : x / 8 = k.getD 0 0 / 8) (hy : y % 64 = k.getD 31 0 % 64) : clampL ((k.set 0 x).set 31 y) = clampL k := by
  have g0 : ((k.set 0 x).set 31 y).getD 0 0 = x := by rw [gset_ne (by omega), gset_self (by omega)]
  have g1 : ((k.set 0 x).set 31 y).getD 31 0 = y := by rw [gset_self (by simp; omega)]
  unfold clampL
  rw [g0, g1, hx, hy]
  rw [List.set_comm _ _ (show (31 : Nat) ≠ 0 by omega), List.set_set, List.set_set]
theorem bytes_set {l : List Int} (h : Bytes l) (i : Nat) (x : Int) (hx : 0 ≤ x ∧ x < 256) : Bytes (l.set i x) := fun y hy => by
  rcases List.mem_or_eq_of_mem_set hy with h1 | h1
  · exact h y h1
  · rw [h1]; exact hx
theorem smul_top (k u : List Int) (x y z : Int) (hk : k.length = 32) (hu : u.length = 32) (hx : x / 8 = k.getD 0 0 / 8) (hy : y % 64 = k.getD 31 0 % 64) (hz : z % 128 = u.getD 31 0 % 128) : smul ((k.set 0 x).set 31 y) (u.set 31 z) = smul k u := by
  unfold smul ladN
  have := decV_top (m := []) hu z hz
  rw [List.append_nil] at this
  rw [clamp_top k x y hk hx hy, this]
end Go.Proofs.Ytfklojheogidpaa
