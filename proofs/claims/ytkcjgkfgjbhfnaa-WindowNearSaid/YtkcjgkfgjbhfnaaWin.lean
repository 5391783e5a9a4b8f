import Derived.Test.YtkcjgkfgjbhfnaaRows
import Derived.Test.YtkcjgkfgjbhfnaaPWindowPlaysx1
import Derived.WalkKit
import Derived.WalkSpells
import Derived.WalkLawsBesides
import Derived.BigQuiet
import Derived.Deep.QuietTactic
import Derived.Lib.Hide
set_option linter.unusedVariables false
namespace Go.Proofs.Ytkcjgkfgjbhfnaa
open Go.RowKit Go.Proofs.YtkcjgkfgjbhfnaaW.PrintWords

/-- The window's block. -/
def wblk (s : Bool) (t c0 c1 : Int) : Array Value := #[.bool s, .int .u64 t, .int .u64 c0, .int .u64 c1]
/-- The world but for block b. -/
structure OnlyB (b : Nat) (w w' : World) : Prop where
  os : w'.os = w.os
  tape : w'.tape = w.tape
  output : w'.output = w.output
  size : w'.heap.size = w.heap.size
  block : ∀ k, k ≠ b → w'.heap[k]? = w.heap[k]?
theorem OnlyB.refl (b : Nat) (w : World) : OnlyB b w w := ⟨rfl, rfl, rfl, rfl, fun _ _ => rfl⟩
theorem OnlyB.trans {b : Nat} {x y z : World} (h : OnlyB b x y) (k : OnlyB b y z) : OnlyB b x z :=
  ⟨k.os.trans h.os, k.tape.trans h.tape, k.output.trans h.output, k.size.trans h.size, fun i hi => (k.block i hi).trans (h.block i hi)⟩
theorem OnlyB.drew {b : Nat} {x y : World} (h : OnlyB b x y) : OnlyB b x y.drew := ⟨h.os, h.tape, h.output, h.size, h.block⟩
theorem OnlyB.set {b : Nat} {x y : World} (h : OnlyB b x y) (i : Nat) (u : Value) : OnlyB b x (y.setCell ⟨b, i, none⟩ u) :=
  h.trans ⟨rfl, rfl, rfl, by simp [World.setCell], fun k hk => Below.heap_setCell _ _ _ _ hk⟩

def bitAt (d : Int) : Int := 2 ^ (d % 64).toNat

set_option maxHeartbeats 400000 in
theorem back_any (b : Nat) (s : Bool) (t c0 c1 n : Int) (w : World) (hc : w.heap[b]? = some (.cells (wblk s t c0 c1) 27 (0, 0))) (h0 : 0 ≤ n) (h1 : n ≤ t) (h2 : t < 18446744073709551616) :
    Calls Try.prog 29 #[.pointer (some ⟨b, 0, none⟩), .int .u64 n] w fun e w' => e = .returned (.tuple #[.int .i64 ((t - n) / 64), .int .u64 (bitAt (t - n))]) ∧ w = w' := by
  have hc1 : w.cell? ⟨b, 1, none⟩ = some (.int .u64 t) := (blk_cell hc 1).trans rfl
  clear hc
  have hw : IntKind.u64.wrap (2 ^ ((t - n) % 64).toNat) = bitAt (t - n) := by
    unfold bitAt
    have : ((t - n) % 64).toNat < 64 := by omega
    generalize ((t - n) % 64).toNat = k at this
    have h3 : (2:Int) ^ k ≤ 2 ^ 63 := by
      have := Nat.pow_le_pow_right (n := 2) (by omega) (show k ≤ 63 by omega)
      exact_mod_cast this
    have h4 : (0:Int) < 2 ^ k := Int.pow_pos (by omega)
    generalize (2:Int) ^ k = z at *
    exact IntWalk.u64_in _ ⟨by omega, by omega⟩
  go_enter Try.func29, Try.ntmps29
  go_wp2
  go_ret2
  exact ⟨by rw [← hw]; rfl, rfl⟩

theorem back_0 (b : Nat) (s : Bool) (t c0 c1 n : Int) (w : World) (hc : w.heap[b]? = some (.cells (wblk s t c0 c1) 27 (0, 0))) (h0 : 0 ≤ n) (h1 : n ≤ t) (h2 : t < 18446744073709551616) (h3 : t - n < 64) :
    Calls Try.prog 29 #[.pointer (some ⟨b, 0, none⟩), .int .u64 n] w fun e w' => e = .returned (.tuple #[.int .i64 0, .int .u64 (bitAt (t - n))]) ∧ w = w' := by
  have h := back_any b s t c0 c1 n w hc h0 h1 h2
  rwa [show (t - n) / 64 = 0 by omega] at h
theorem back_1 (b : Nat) (s : Bool) (t c0 c1 n : Int) (w : World) (hc : w.heap[b]? = some (.cells (wblk s t c0 c1) 27 (0, 0))) (h0 : 0 ≤ n) (h1 : n ≤ t) (h2 : t < 18446744073709551616) (h3 : 64 ≤ t - n) (h4 : t - n < 128) :
    Calls Try.prog 29 #[.pointer (some ⟨b, 0, none⟩), .int .u64 n] w fun e w' => e = .returned (.tuple #[.int .i64 1, .int .u64 (bitAt (t - n))]) ∧ w = w' := by
  have h := back_any b s t c0 c1 n w hc h0 h1 h2
  rwa [show (t - n) / 64 = 1 by omega] at h

/-- What Check answers. -/
def checkF (s : Bool) (t c0 c1 n : Int) : Int :=
  if s = false then 0 else if t < n then 0 else if 128 ≤ t - n then 43
  else if (bits .and .u64 (if t - n < 64 then c0 else c1) (bitAt (t - n)) != 0) = true then 43 else 0

set_option maxHeartbeats 400000 in
theorem check_nil (n : Int) (w : World) :
    Calls Try.prog 16 #[.pointer none, .int .u64 n] w fun e w' => e = .returned (.int .i64 1) ∧ w = w' := by
  go_enter Try.func16, Try.ntmps16
  go_wp2
  go_ret
  exact ⟨rfl, rfl⟩

set_option maxHeartbeats 400000 in
theorem check_any (b : Nat) (s : Bool) (t c0 c1 n : Int) (w : World) (hc : w.heap[b]? = some (.cells (wblk s t c0 c1) 27 (0, 0))) (h0 : 0 ≤ n) (h0' : n < 18446744073709551616) (ht : 0 ≤ t) (h2 : t < 18446744073709551616) :
    Calls Try.prog 16 #[.pointer (some ⟨b, 0, none⟩), .int .u64 n] w fun e w' => e = .returned (.int .i64 (checkF s t c0 c1 n)) ∧ w = w' := by
  have hc0 : w.cell? ⟨b, 0, none⟩ = some (.bool s) := (blk_cell hc 0).trans rfl
  have hc1 : w.cell? ⟨b, 1, none⟩ = some (.int .u64 t) := (blk_cell hc 1).trans rfl
  have hc2 : w.cell? ⟨b, 2, none⟩ = some (.int .u64 c0) := (blk_cell hc 2).trans rfl
  have hc3 : w.cell? ⟨b, 3, none⟩ = some (.int .u64 c1) := (blk_cell hc 3).trans rfl
  have HC := Lib.hid hc
  clear hc
  cases s
  · go_enter Try.func16, Try.ntmps16
    go_wp2
    go_ret
    exact ⟨rfl, rfl⟩
  · by_cases h1 : t < n
    · have hf : checkF true t c0 c1 n = 0 := by simp [checkF, h1]
      have HF := Lib.hid hf
      clear hf
      go_enter Try.func16, Try.ntmps16
      go_wp2
      go_ret
      exact ⟨by rw [HF.out]; rfl, rfl⟩
    · by_cases h3 : 128 ≤ t - n
      · have hf : checkF true t c0 c1 n = 43 := by simp [checkF, h1, h3]
        have HF := Lib.hid hf
        clear hf
        go_enter Try.func16, Try.ntmps16
        go_wp2
        go_ret
        exact ⟨by rw [HF.out]; rfl, rfl⟩
      · by_cases h4 : t - n < 64
        · have hf : checkF true t c0 c1 n = if (bits .and .u64 c0 (bitAt (t - n)) != 0) = true then 43 else 0 := by simp [checkF, h1, h3, h4]
          cases hb : (bits .and .u64 c0 (bitAt (t - n)) != 0)
          all_goals
            rw [hb] at hf
            have HF := Lib.hid hf
            clear hf
            go_enter Try.func16, Try.ntmps16
            go_wp2_with fail
            refine (back_0 b true t c0 c1 n _ HC.out h0 (by omega) h2 h4).mono ?_
            rintro e w' ⟨rfl, rfl⟩
            go_wp2
            go_ret
            exact ⟨by rw [HF.out]; rfl, rfl⟩
        · have hf : checkF true t c0 c1 n = if (bits .and .u64 c1 (bitAt (t - n)) != 0) = true then 43 else 0 := by simp [checkF, h1, h3, h4]
          cases hb : (bits .and .u64 c1 (bitAt (t - n)) != 0)
          all_goals
            rw [hb] at hf
            have HF := Lib.hid hf
            clear hf
            go_enter Try.func16, Try.ntmps16
            go_wp2_with fail
            refine (back_1 b true t c0 c1 n _ HC.out h0 (by omega) h2 (by omega) (by omega)).mono ?_
            rintro e w' ⟨rfl, rfl⟩
            go_wp2
            go_ret
            exact ⟨by rw [HF.out]; rfl, rfl⟩

set_option maxHeartbeats 400000 in
theorem top_nil (w : World) :
    Calls Try.prog 14 #[.pointer none] w fun e w' => e = .returned (.tuple #[.int .u64 0, .bool false]) ∧ w = w' := by
  go_enter Try.func14, Try.ntmps14
  go_wp2
  go_ret2
  exact ⟨rfl, rfl⟩

set_option maxHeartbeats 400000 in
theorem top_any (b : Nat) (s : Bool) (t c0 c1 : Int) (w : World) (hc : w.heap[b]? = some (.cells (wblk s t c0 c1) 27 (0, 0))) :
    Calls Try.prog 14 #[.pointer (some ⟨b, 0, none⟩)] w fun e w' => e = .returned (.tuple #[.int .u64 t, .bool s]) ∧ Drawn0 w w' := by
  have hc0 : w.cell? ⟨b, 0, none⟩ = some (.bool s) := (blk_cell hc 0).trans rfl
  have hc1 : w.cell? ⟨b, 1, none⟩ = some (.int .u64 t) := (blk_cell hc 1).trans rfl
  clear hc
  go_enter Try.func14, Try.ntmps14
  go_wp2
  go_quiet (fail)
  go_wp2
  go_ret2
  exact ⟨rfl, ⟨⟨_, rfl⟩⟩⟩

def shiftOne (c : Int × Int) : Int × Int := (IntKind.u64.wrap (c.1 * 2), bits .or .u64 (IntKind.u64.wrap (c.2 * 2)) (c.1 / 9223372036854775808))
def shiftN : Nat → Int × Int → Int × Int
  | 0, c => c
  | k + 1, c => shiftOne (shiftN k c)

theorem wblk_set1 (s : Bool) (t c0 c1 x : Int) : (wblk s t c0 c1).setIfInBounds 1 (.int .u64 x) = wblk s x c0 c1 := rfl
theorem wblk_set0 (s x : Bool) (t c0 c1 : Int) : (wblk s t c0 c1).setIfInBounds 0 (.bool x) = wblk x t c0 c1 := rfl
theorem wblk_set2 (s : Bool) (t c0 c1 x : Int) : (wblk s t c0 c1).setIfInBounds 2 (.int .u64 x) = wblk s t x c1 := rfl
theorem wblk_set3 (s : Bool) (t c0 c1 x : Int) : (wblk s t c0 c1).setIfInBounds 3 (.int .u64 x) = wblk s t c0 x := rfl

set_option maxHeartbeats 400000 in
theorem slide_any (b : Nat) (t c0 c1 n m : Int) (w : World) (hc : w.heap[b]? = some (.cells (wblk true t c0 c1) 27 (0, 0))) (h1 : t < n) (h0' : n < 18446744073709551616) (ht : 0 ≤ t) (hm : m = min (n - t) 128) :
    Calls Try.prog 28 #[.pointer (some ⟨b, 0, none⟩), .int .u64 n] w fun e w' => e = .returned (.tuple #[]) ∧ 
      w'.heap[b]? = some (.cells (wblk true n (shiftN m.toNat (c0, c1)).1 (shiftN m.toNat (c0, c1)).2) 27 (0, 0)) ∧ OnlyB b w w' := by
  have hc1 : w.cell? ⟨b, 1, none⟩ = some (.int .u64 t) := (blk_cell hc 1).trans rfl
  have HC := Lib.hid hc
  clear hc
  by_cases hd : n - t ≤ 128
  · obtain rfl : m = n - t := by omega
    clear hm
    go_enter Try.func28, Try.ntmps28
    go_wp2
    go_loopw [11] (fun i wr => ∃ k : Nat, (k : Int) ≤ n - t ∧ i = .int .u64 k ∧ wr.heap[b]? = some (.cells (wblk true t (shiftN k (c0, c1)).1 (shiftN k (c0, c1)).2) 27 (0, 0)) ∧ OnlyB b w wr) (fun i _ => 128 - (intOf i).toNat)
    case atStart => exact ⟨0, by omega, rfl, HC.out, OnlyB.refl _ _⟩
    case round =>
      obtain ⟨k, hk, rfl, hw, ho⟩ := hrel
      have hs : shiftN (k + 1) (c0, c1) = shiftOne (shiftN k (c0, c1)) := rfl
      obtain ⟨⟨d0, d1⟩, hce⟩ : ∃ c, shiftN k (c0, c1) = c := ⟨_, rfl⟩
      rw [hce] at hs hw
      have HE := Lib.hid hce
      clear hce
      have e1 : wr.cell? ⟨b, 1, none⟩ = some (.int .u64 t) := (blk_cell hw 1).trans rfl
      have e2 : wr.cell? ⟨b, 2, none⟩ = some (.int .u64 d0) := (blk_cell hw 2).trans rfl
      have e3 : wr.cell? ⟨b, 3, none⟩ = some (.int .u64 d1) := (blk_cell hw 3).trans rfl
      have f1 := blk_frozen hw 1
      have f2 := blk_frozen hw 2
      have f3 := blk_frozen hw 3
      have HW := Lib.hid hw
      have HS := Lib.hid hs
      clear hw hs hc1
      by_cases hlt : (k : Int) < n - t
      · go_wp2
        go_region
        all_goals
          go_wp2
          go_region
          go_wp2
        refine ⟨⟨k + 1, by omega, by go_num, ?_, ((ho.set 3 _).set 2 _).drew.drew⟩, by simp [intOf]; omega⟩
        rw [HS.out]
        exact blk_set (blk_set HW.out 3 _) 2 _
      · have hke : k = (n - t).toNat := by omega
        go_wp2
        go_end0
        refine ⟨rfl, ?_, ho.set 1 _⟩
        rw [← hke, HE.out]
        exact blk_set HW.out 1 _
  · obtain rfl : m = 128 := by omega
    clear hm
    go_enter Try.func28, Try.ntmps28
    go_wp2
    go_loopw [11] (fun i wr => ∃ k : Nat, (k : Int) ≤ 128 ∧ i = .int .u64 k ∧ wr.heap[b]? = some (.cells (wblk true t (shiftN k (c0, c1)).1 (shiftN k (c0, c1)).2) 27 (0, 0)) ∧ OnlyB b w wr) (fun i _ => 128 - (intOf i).toNat)
    case atStart => exact ⟨0, by omega, rfl, HC.out, OnlyB.refl _ _⟩
    case round =>
      obtain ⟨k, hk, rfl, hw, ho⟩ := hrel
      have hs : shiftN (k + 1) (c0, c1) = shiftOne (shiftN k (c0, c1)) := rfl
      obtain ⟨⟨d0, d1⟩, hce⟩ : ∃ c, shiftN k (c0, c1) = c := ⟨_, rfl⟩
      rw [hce] at hs hw
      have HE := Lib.hid hce
      clear hce
      have e1 : wr.cell? ⟨b, 1, none⟩ = some (.int .u64 t) := (blk_cell hw 1).trans rfl
      have e2 : wr.cell? ⟨b, 2, none⟩ = some (.int .u64 d0) := (blk_cell hw 2).trans rfl
      have e3 : wr.cell? ⟨b, 3, none⟩ = some (.int .u64 d1) := (blk_cell hw 3).trans rfl
      have f1 := blk_frozen hw 1
      have f2 := blk_frozen hw 2
      have f3 := blk_frozen hw 3
      have HW := Lib.hid hw
      have HS := Lib.hid hs
      clear hw hs hc1
      by_cases hlt : (k : Int) < 128
      · go_wp2
        go_region
        all_goals
          go_wp2
          go_region
          go_wp2
        refine ⟨⟨k + 1, by omega, by go_num, ?_, ((ho.set 3 _).set 2 _).drew.drew⟩, by simp [intOf]; omega⟩
        rw [HS.out]
        exact blk_set (blk_set HW.out 3 _) 2 _
      · have hke : k = 128 := by omega
        go_wp2
        go_end0
        refine ⟨rfl, ?_, ho.set 1 _⟩
        rw [← hke, HE.out]
        exact blk_set HW.out 1 _

/-- What Mark leaves, where Check lets it. -/
def markS (s : Bool) (t c0 c1 n : Int) : Int × Int × Int :=
  if s = false then (n, bits .or .u64 c0 (bitAt 0), c1)
  else if t < n then (n, bits .or .u64 (shiftN (min (n - t) 128).toNat (c0, c1)).1 (bitAt 0), (shiftN (min (n - t) 128).toNat (c0, c1)).2)
  else if t - n < 64 then (t, bits .or .u64 c0 (bitAt (t - n)), c1)
  else (t, c0, bits .or .u64 c1 (bitAt (t - n)))

set_option maxHeartbeats 400000 in
theorem mark_nil (n : Int) (w : World) :
    Calls Try.prog 12 #[.pointer none, .int .u64 n] w fun e w' => e = .returned (.int .i64 1) ∧ w = w' := by
  go_enter Try.func12, Try.ntmps12
  go_wp2_with fail
  refine (check_nil n _).mono ?_
  rintro e w' ⟨rfl, rfl⟩
  go_wp2
  go_ret
  exact ⟨rfl, rfl⟩

set_option maxHeartbeats 400000 in
theorem mark_no (b : Nat) (s : Bool) (t c0 c1 n : Int) (w : World) (hc : w.heap[b]? = some (.cells (wblk s t c0 c1) 27 (0, 0))) (h0 : 0 ≤ n) (h0' : n < 18446744073709551616) (ht : 0 ≤ t) (h2 : t < 18446744073709551616)
    (hf : checkF s t c0 c1 n = 43) :
    Calls Try.prog 12 #[.pointer (some ⟨b, 0, none⟩), .int .u64 n] w fun e w' => e = .returned (.int .i64 43) ∧ w = w' := by
  have HC := Lib.hid hc
  have HF := Lib.hid hf
  clear hc hf
  go_enter Try.func12, Try.ntmps12
  go_wp2_with fail
  refine (check_any b s t c0 c1 n _ HC.out h0 h0' ht h2).mono ?_
  rw [HF.out]
  rintro e w' ⟨rfl, rfl⟩
  go_wp2
  go_ret
  exact ⟨rfl, rfl⟩

set_option maxHeartbeats 400000 in
theorem mark_first (b : Nat) (t c0 c1 n : Int) (w : World) (hc : w.heap[b]? = some (.cells (wblk false t c0 c1) 27 (0, 0))) (h0 : 0 ≤ n) (h0' : n < 18446744073709551616) (ht : 0 ≤ t) (h2 : t < 18446744073709551616) :
    Calls Try.prog 12 #[.pointer (some ⟨b, 0, none⟩), .int .u64 n] w fun e w' => e = .returned (.int .i64 0) ∧ w'.heap[b]? = some (.cells (wblk true n (bits .or .u64 c0 (bitAt 0)) c1) 27 (0, 0)) ∧ OnlyB b w w' := by
  have e0 : w.cell? ⟨b, 0, none⟩ = some (.bool false) := (blk_cell hc 0).trans rfl
  have e1 : w.cell? ⟨b, 1, none⟩ = some (.int .u64 t) := (blk_cell hc 1).trans rfl
  have e2 : w.cell? ⟨b, 2, none⟩ = some (.int .u64 c0) := (blk_cell hc 2).trans rfl
  have f0 := blk_frozen hc 0
  have f1 := blk_frozen hc 1
  have f2 := blk_frozen hc 2
  have HC := Lib.hid hc
  clear hc
  have hx := blk_set (blk_set HC.out 0 (.bool true)) 1 (.int .u64 n)
  rw [wblk_set0, wblk_set1] at hx
  have HX := Lib.hid hx
  clear hx
  go_enter Try.func12, Try.ntmps12
  go_wp2_with fail
  refine (check_any b false t c0 c1 n _ HC.out h0 h0' ht h2).mono ?_
  rintro e w' ⟨rfl, rfl⟩
  go_wp2_with fail
  refine (back_0 b true n c0 c1 n _ HX.out h0 (by omega) h0' (by omega)).mono ?_
  rw [show n - n = 0 by omega]
  rintro e w' ⟨rfl, rfl⟩
  go_wp2
  go_region
  go_wp2
  go_ret
  refine ⟨rfl, ?_, (((((OnlyB.refl b w).set 0 _).set 1 _)).set 2 _).drew⟩
  exact blk_set HX.out 2 _

set_option maxHeartbeats 400000 in
theorem mark_up (b : Nat) (t c0 c1 n : Int) (w : World) (hc : w.heap[b]? = some (.cells (wblk true t c0 c1) 27 (0, 0))) (h0' : n < 18446744073709551616) (ht : 0 ≤ t) (h3 : t < n) :
    Calls Try.prog 12 #[.pointer (some ⟨b, 0, none⟩), .int .u64 n] w fun e w' => e = .returned (.int .i64 0) ∧
      w'.heap[b]? = some (.cells (wblk true n (bits .or .u64 (shiftN (min (n - t) 128).toNat (c0, c1)).1 (bitAt 0)) (shiftN (min (n - t) 128).toNat (c0, c1)).2) 27 (0, 0)) ∧ OnlyB b w w' := by
  have e0 : w.cell? ⟨b, 0, none⟩ = some (.bool true) := (blk_cell hc 0).trans rfl
  have e1 : w.cell? ⟨b, 1, none⟩ = some (.int .u64 t) := (blk_cell hc 1).trans rfl
  have HC := Lib.hid hc
  clear hc
  have hf : checkF true t c0 c1 n = 0 := by simp [checkF, h3]
  have HF := Lib.hid hf
  clear hf
  go_enter Try.func12, Try.ntmps12
  go_wp2_with fail
  refine (check_any b true t c0 c1 n _ HC.out (by omega) h0' ht (by omega)).mono ?_
  rw [HF.out]
  rintro e w' ⟨rfl, rfl⟩
  go_wp2_with fail
  refine (slide_any b t c0 c1 n _ _ HC.out h3 h0' ht rfl).mono ?_
  rintro e w1 ⟨rfl, hc1, ho⟩
  obtain ⟨⟨d0, d1⟩, hce⟩ : ∃ c, shiftN (min (n - t) 128).toNat (c0, c1) = c := ⟨_, rfl⟩
  rw [hce] at hc1
  have HE := Lib.hid hce
  clear hce
  have g1 : w1.cell? ⟨b, 2, none⟩ = some (.int .u64 d0) := (blk_cell hc1 2).trans rfl
  have g2 := blk_frozen hc1 2
  have HC1 := Lib.hid hc1
  clear hc1
  go_wp2_with fail
  refine (back_0 b true n d0 d1 n _ HC1.out (by omega) (by omega) h0' (by omega)).mono ?_
  rw [show n - n = 0 by omega]
  rintro e w' ⟨rfl, rfl⟩
  go_wp2
  go_region
  go_wp2
  go_ret
  refine ⟨rfl, ?_, (ho.set 2 _).drew⟩
  rw [HE.out]
  exact blk_set HC1.out 2 _

set_option maxHeartbeats 400000 in
theorem mark_in0 (b : Nat) (t c0 c1 n : Int) (w : World) (hc : w.heap[b]? = some (.cells (wblk true t c0 c1) 27 (0, 0))) (h0 : 0 ≤ n) (h1 : n ≤ t) (h2 : t < 18446744073709551616) (h3 : t - n < 64) (hf : checkF true t c0 c1 n = 0) :
    Calls Try.prog 12 #[.pointer (some ⟨b, 0, none⟩), .int .u64 n] w fun e w' => e = .returned (.int .i64 0) ∧
      w'.heap[b]? = some (.cells (wblk true t (bits .or .u64 c0 (bitAt (t - n))) c1) 27 (0, 0)) ∧ OnlyB b w w' := by
  have e0 : w.cell? ⟨b, 0, none⟩ = some (.bool true) := (blk_cell hc 0).trans rfl
  have e1 : w.cell? ⟨b, 1, none⟩ = some (.int .u64 t) := (blk_cell hc 1).trans rfl
  have e2 : w.cell? ⟨b, 2, none⟩ = some (.int .u64 c0) := (blk_cell hc 2).trans rfl
  have f2 := blk_frozen hc 2
  have HC := Lib.hid hc
  clear hc
  have HF := Lib.hid hf
  clear hf
  go_enter Try.func12, Try.ntmps12
  go_wp2_with fail
  refine (check_any b true t c0 c1 n _ HC.out (by omega) (by omega) (by omega) (by omega)).mono ?_
  rw [HF.out]
  rintro e w' ⟨rfl, rfl⟩
  go_wp2_with fail
  refine (back_0 b true t c0 c1 n _ HC.out (by omega) (by omega) h2 h3).mono ?_
  rintro e w' ⟨rfl, rfl⟩
  go_wp2
  go_region
  go_wp2
  go_ret
  refine ⟨rfl, ?_, ((OnlyB.refl b w).set 2 _).drew⟩
  exact blk_set HC.out 2 _

set_option maxHeartbeats 400000 in
theorem mark_in1 (b : Nat) (t c0 c1 n : Int) (w : World) (hc : w.heap[b]? = some (.cells (wblk true t c0 c1) 27 (0, 0))) (h0 : 0 ≤ n) (h1 : n ≤ t) (h2 : t < 18446744073709551616) (h3 : 64 ≤ t - n) (h4 : t - n < 128) (hf : checkF true t c0 c1 n = 0) :
    Calls Try.prog 12 #[.pointer (some ⟨b, 0, none⟩), .int .u64 n] w fun e w' => e = .returned (.int .i64 0) ∧
      w'.heap[b]? = some (.cells (wblk true t c0 (bits .or .u64 c1 (bitAt (t - n)))) 27 (0, 0)) ∧ OnlyB b w w' := by
  have e0 : w.cell? ⟨b, 0, none⟩ = some (.bool true) := (blk_cell hc 0).trans rfl
  have e1 : w.cell? ⟨b, 1, none⟩ = some (.int .u64 t) := (blk_cell hc 1).trans rfl
  have e2 : w.cell? ⟨b, 3, none⟩ = some (.int .u64 c1) := (blk_cell hc 3).trans rfl
  have f2 := blk_frozen hc 3
  have HC := Lib.hid hc
  clear hc
  have HF := Lib.hid hf
  clear hf
  go_enter Try.func12, Try.ntmps12
  go_wp2_with fail
  refine (check_any b true t c0 c1 n _ HC.out (by omega) (by omega) (by omega) (by omega)).mono ?_
  rw [HF.out]
  rintro e w' ⟨rfl, rfl⟩
  go_wp2_with fail
  refine (back_1 b true t c0 c1 n _ HC.out (by omega) (by omega) h2 h3 h4).mono ?_
  rintro e w' ⟨rfl, rfl⟩
  go_wp2
  go_region
  go_wp2
  go_ret
  refine ⟨rfl, ?_, ((OnlyB.refl b w).set 3 _).drew⟩
  exact blk_set HC.out 3 _

theorem checkF_two (s : Bool) (t c0 c1 n : Int) : checkF s t c0 c1 n = 0 ∨ checkF s t c0 c1 n = 43 := by
  unfold checkF
  repeat' split
  all_goals first | exact .inl rfl | exact .inr rfl

/-- Mark, where Check lets the number. -/
theorem mark_yes (b : Nat) (s : Bool) (t c0 c1 n : Int) (w : World) (hc : w.heap[b]? = some (.cells (wblk s t c0 c1) 27 (0, 0))) (h0 : 0 ≤ n) (h0' : n < 18446744073709551616) (ht : 0 ≤ t) (h2 : t < 18446744073709551616)
    (hf : checkF s t c0 c1 n = 0) :
    Calls Try.prog 12 #[.pointer (some ⟨b, 0, none⟩), .int .u64 n] w fun e w' => e = .returned (.int .i64 0) ∧
      w'.heap[b]? = some (.cells (wblk true (markS s t c0 c1 n).1 (markS s t c0 c1 n).2.1 (markS s t c0 c1 n).2.2) 27 (0, 0)) ∧ OnlyB b w w' := by
  cases s
  · exact mark_first b t c0 c1 n w hc h0 h0' ht h2
  · by_cases h3 : t < n
    · have hm : markS true t c0 c1 n = (n, bits .or .u64 (shiftN (min (n - t) 128).toNat (c0, c1)).1 (bitAt 0), (shiftN (min (n - t) 128).toNat (c0, c1)).2) := by simp [markS, h3]
      rw [hm]
      exact mark_up b t c0 c1 n w hc h0' ht h3
    · by_cases h4 : t - n < 64
      · have hm : markS true t c0 c1 n = (t, bits .or .u64 c0 (bitAt (t - n)), c1) := by simp [markS, h3, h4]
        rw [hm]
        exact mark_in0 b t c0 c1 n w hc h0 (by omega) h2 h4 hf
      · have hm : markS true t c0 c1 n = (t, c0, bits .or .u64 c1 (bitAt (t - n))) := by simp [markS, h3, h4]
        rw [hm]
        by_cases h5 : t - n < 128
        · exact mark_in1 b t c0 c1 n w hc h0 (by omega) h2 (by omega) h5 hf
        · have : checkF true t c0 c1 n = 43 := by
            unfold checkF
            rw [if_neg (by simp), if_neg h3, if_pos (by omega)]
          omega

end Go.Proofs.Ytkcjgkfgjbhfnaa
