import Derived.Test.YtkcjgkfgjbhfnaaWinCalls
set_option linter.unusedVariables false
namespace Go.Proofs.Ytkcjgkfgjbhfnaa
open Go.RowKit Go.Proofs.YtkcjgkfgjbhfnaaW.PrintWords

/-- j numbers one behind the other, from b on. -/
def rowL (b : Int) (j : Nat) : List Int := (List.range j).map fun (i : Nat) => b + (i : Int)
theorem rowL_succ (b : Int) (j : Nat) : rowL b (j + 1) = rowL b j ++ [b + (j : Int)] := by simp [rowL, List.range_succ]
theorem mem_rowL {b x : Int} {j : Nat} : x ∈ rowL b j ↔ b ≤ x ∧ x < b + j := by
  simp only [rowL, List.mem_map, List.mem_range]
  constructor
  · rintro ⟨i, hi, rfl⟩; omega
  · rintro ⟨h1, h2⟩; exact ⟨(x - b).toNat, by omega, by omega⟩
theorem topL_rowL (b : Int) (j : Nat) (hb : 0 ≤ b) : topL (rowL b j) ≤ b + j := by
  by_cases hn : rowL b j = []
  · rw [hn, topL_nil]; omega
  · have := mem_rowL.1 (topL_mem _ (fun x hx => by have := mem_rowL.1 hx; omega) hn)
    omega
theorem topL_rowL_lt (b : Int) (j : Nat) (hb : 0 ≤ b) (h : 0 < j) : topL (rowL b j) < b + j := by
  have hn : rowL b j ≠ [] := fun h0 => by
    have : b ∈ rowL b j := mem_rowL.2 ⟨by omega, by omega⟩
    rw [h0] at this; cases this
  have := mem_rowL.1 (topL_mem _ (fun x hx => by have := mem_rowL.1 hx; omega) hn)
  omega
theorem chk_next (b : Int) (j : Nat) (hb : 0 ≤ b) : chk (rowL b j) (b + j) = 0 := by
  unfold chk
  have := topL_rowL b j hb
  rw [if_neg (by rw [mem_rowL]; omega), if_neg (by omega)]
theorem chk_came (b : Int) (j i : Nat) (h : i < j) : chk (rowL b j) (b + i) = 43 := by
  unfold chk
  rw [if_pos (mem_rowL.2 ⟨by omega, by omega⟩)]
theorem chk_far (b t : Int) (j : Nat) (hb : 0 ≤ b) (hj : 0 < j) (ht : b + j ≤ t) : chk (rowL b j) t = 0 := by
  unfold chk
  have := topL_rowL_lt b j hb hj
  rw [if_neg (by rw [mem_rowL]; omega), if_neg (by omega)]
theorem topL_two (b t : Int) (j : Nat) (hb : 0 ≤ b) (ht : b + j ≤ t) : topL (rowL b j ++ [t]) = t := by
  rw [topL_snoc]
  have := topL_rowL b j hb
  omega
theorem chk_between (b t x : Int) (j : Nat) (hb : 0 ≤ b) (hx : b + j ≤ x) (ht : x < t) : chk (rowL b j ++ [t]) x = if 128 ≤ t - x then 43 else 0 := by
  unfold chk
  rw [topL_two b t j hb (by omega), if_neg (by simp only [List.mem_append, mem_rowL, List.mem_singleton]; omega)]
  by_cases h : 128 ≤ t - x
  · rw [if_pos ⟨ht, h⟩, if_pos h]
  · rw [if_neg (by omega), if_neg h]
theorem chk_base (b t : Int) (j : Nat) (h : 0 < j) : chk (rowL b j ++ [t]) b = 43 := by
  unfold chk
  rw [if_pos (List.mem_append.2 (.inl (mem_rowL.2 ⟨by omega, by omega⟩)))]

theorem mask48 (x : Int) (h0 : 0 ≤ x) (h1 : x ≤ 18446744073709551615) : bits .and .u64 x 281474976710655 = x % 281474976710656 :=
  bits_mask .u64 64 (by decide) (fun n h0 h1 => IntWalk.u64_in n ⟨h0, by omega⟩) 48 (by decide) x h0 (by omega)
theorem mask16 (x : Int) (h0 : 0 ≤ x) (h1 : x ≤ 18446744073709551615) : bits .and .u64 x 65535 = x % 65536 :=
  bits_mask .u64 64 (by decide) (fun n h0 h1 => IntWalk.u64_in n ⟨h0, by omega⟩) 16 (by decide) x h0 (by omega)
theorem mask6 (x : Int) : ∃ k : Nat, bits .and .i64 x 63 = (k : Int) ∧ k < 64 := by
  have h63 : (BitVec.ofInt 64 63).toNat = 63 := by decide
  have hlt : ∀ y : Nat, y &&& 63 < 64 := fun y => by
    have := Nat.and_two_pow_sub_one_eq_mod y 6
    rw [show 2 ^ 6 - 1 = 63 from rfl] at this
    rw [this]; omega
  refine ⟨(BitVec.ofInt 64 x).toNat &&& 63, ?_, hlt _⟩
  have := hlt (BitVec.ofInt 64 x).toNat
  have e : bits .and .i64 x 63 = IntKind.i64.wrap (((BitVec.ofInt 64 x) &&& (BitVec.ofInt 64 63)).toNat : Int) := rfl
  rw [e, BitVec.toNat_and, h63]
  exact IntWalk.i64_in _ ⟨by omega, by omega⟩

set_option maxHeartbeats 1000000 in
theorem rows_walk (w : World) (a0 : Int) (a1 : Int) (a2 : Int)
    (b0 : 0 ≤ a0 ∧ a0 ≤ 18446744073709551615) (b1 : -9223372036854775808 ≤ a1 ∧ a1 ≤ 9223372036854775807) (b2 : 0 ≤ a2 ∧ a2 ≤ 18446744073709551615) :
    Calls Try.prog 6 #[.int .u64 a0, .int .i64 a1, .int .u64 a2] w fun e w' => e = .returned (.bool true) ∧ Below w.heap.size w w' := by
  obtain ⟨b, hb, hb0, hb1⟩ : ∃ b, bits .and .u64 a0 281474976710655 = b ∧ 0 ≤ b ∧ b < 281474976710656 := ⟨_, mask48 a0 b0.1 b0.2, by omega, by omega⟩
  obtain ⟨s, hs, hs0, hs1⟩ : ∃ s, bits .and .u64 a2 65535 = s ∧ 0 ≤ s ∧ s < 65536 := ⟨_, mask16 a2 b2.1 b2.2, by omega, by omega⟩
  obtain ⟨k, hk, hk1⟩ := mask6 a1
  clear b0 b1 b2
  go_enter Try.func6, Try.ntmps6
  go_wp2_with fail
  refine (awake_any _).mono ?_
  rintro e w1 ⟨rfl, B1⟩
  have hz := B1.size
  have B2 := B1.alloc B1.size (.cells #[.bool false, .int .u64 0, .int .u64 0, .int .u64 0] 27)
  have hn := WinAt.new w1
  have HN := Lib.hid hn
  have HB := Lib.hid B2
  clear hn B1 B2
  go_wp2
  go_loopw [11] (fun i wr => ∃ j : Nat, (j : Int) ≤ k + 1 ∧ i = .int .u64 j ∧ WinAt wr w1.heap.size (rowL b j) ∧ Below w.heap.size w wr) (fun i _ => k + 1 - (intOf i).toNat)
  case atStart => exact ⟨0, by omega, rfl, HN.out, HB.out⟩
  case round =>
    obtain ⟨j, hj, rfl, hw, hB⟩ := hrel
    have HW := Lib.hid hw
    have HB1 := Lib.hid hB
    clear hw hB
    by_cases hlt : (j : Int) ≤ k
    · go_wp2_with fail
      refine (mark_list HW.out (b + (j : Int)) (by omega) (by omega)).mono ?_
      rw [chk_next b j hb0, if_pos rfl, ← rowL_succ]
      rintro e w3 ⟨rfl, h3, o3⟩
      have H3 := Lib.hid h3
      have HB3 := Lib.hid (o3.below HB1.out hz)
      clear h3 o3
      go_wp2_with fail
      refine (check_list H3.out (b + (j : Int)) (by omega) (by omega)).mono ?_
      rw [chk_came b (j + 1) j (by omega)]
      rintro e w' ⟨rfl, rfl⟩
      go_wp2
      go_roundw
      case rel => exact ⟨j + 1, by omega, by go_num, H3.out, HB3.out⟩
      case measure => simp [intOf]; omega
    · have hje : j = k + 1 := by omega
      subst hje
      go_wp2_with fail
      refine (mark_list HW.out (b + (k : Int) + 1 + s) (by omega) (by omega)).mono ?_
      rw [chk_far b (b + (k : Int) + 1 + s) (k + 1) hb0 (by omega) (by omega), if_pos rfl]
      rintro e w4 ⟨rfl, h4, o4⟩
      have H4 := Lib.hid h4
      have HB4 := Lib.hid (o4.below HB1.out hz)
      clear h4 o4
      go_wp2
      go_loop [14] (fun i => ∃ j : Nat, (j : Int) ≤ s ∧ i = .int .u64 j) (fun i => s.toNat - (intOf i).toNat)
      case atStart => exact ⟨0, by omega, rfl⟩
      case round =>
        obtain ⟨j, hj, rfl⟩ := hrel
        have hlast : Hid (chk (rowL b (k + 1) ++ [b + (k : Int) + 1 + s]) b = 43) := chk_base b _ (k + 1) (by omega)
        by_cases hlt : (j : Int) < s
        · have hc : Hid (chk (rowL b (k + 1) ++ [b + (k : Int) + 1 + s]) (b + (k : Int) + 1 + (j : Int)) = if 128 ≤ b + (k : Int) + 1 + s - (b + (k : Int) + 1 + (j : Int)) then 43 else 0) :=
            chk_between b _ _ (k + 1) hb0 (by omega) (by omega)
          by_cases hfar : 128 ≤ b + (k : Int) + 1 + s - (b + (k : Int) + 1 + (j : Int))
          all_goals
            go_wp2_with fail
            refine (check_list H4.out (b + (k : Int) + 1 + (j : Int)) (by omega) (by omega)).mono ?_
            rw [hc.out]
            first | rw [if_pos (by omega)] | rw [if_neg (by omega)]
            rintro e w' ⟨rfl, rfl⟩
            by_cases h300 : 300 < (j : Int)
            · go_wp2_with fail
              refine (check_list H4.out b (by omega) (by omega)).mono ?_
              rw [hlast.out]
              rintro e w' ⟨rfl, rfl⟩
              go_wp2
              go_ret
              exact ⟨rfl, HB4.out⟩
            · go_wp2
              go_round
              case rel => exact ⟨j + 1, by omega, by go_num⟩
              case measure => simp [intOf]; omega
        · go_wp2_with fail
          refine (check_list H4.out b (by omega) (by omega)).mono ?_
          rw [hlast.out]
          rintro e w' ⟨rfl, rfl⟩
          go_wp2
          go_ret
          exact ⟨rfl, HB4.out⟩

end Go.Proofs.Ytkcjgkfgjbhfnaa
