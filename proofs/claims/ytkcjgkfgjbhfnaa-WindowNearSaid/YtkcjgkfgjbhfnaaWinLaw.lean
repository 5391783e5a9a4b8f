import Derived.Test.YtkcjgkfgjbhfnaaWin
set_option linter.unusedVariables false
namespace Go.Proofs.Ytkcjgkfgjbhfnaa
open Go.RowKit Go.Proofs.YtkcjgkfgjbhfnaaW.PrintWords

/-! ### The document's answers, on lists -/
def topL (l : List Int) : Int := l.foldl max 0
def chk (l : List Int) (n : Int) : Int := if n ∈ l then 43 else if n < topL l ∧ 128 ≤ topL l - n then 43 else 0

theorem foldl_max_le (l : List Int) : ∀ a : Int, a ≤ l.foldl max a ∧ (∀ x ∈ l, x ≤ l.foldl max a) ∧ (l.foldl max a = a ∨ l.foldl max a ∈ l) := by
  induction l with
  | nil => intro a; simp
  | cons y l ih =>
    intro a
    obtain ⟨h1, h2, h3⟩ := ih (max a y)
    refine ⟨by simp only [List.foldl_cons]; omega, ?_, ?_⟩
    · intro x hx
      simp only [List.foldl_cons]
      rcases List.mem_cons.1 hx with rfl | hx
      · omega
      · exact h2 x hx
    · simp only [List.foldl_cons]
      rcases h3 with h3 | h3
      · rw [h3]
        by_cases h : a ≤ y
        · exact .inr (by rw [Int.max_eq_right h]; exact List.mem_cons_self)
        · exact .inl (by omega)
      · exact .inr (List.mem_cons_of_mem _ h3)
theorem topL_ge (l : List Int) (x : Int) (h : x ∈ l) : x ≤ topL l := (foldl_max_le l 0).2.1 x h
theorem topL_nonneg (l : List Int) : 0 ≤ topL l := (foldl_max_le l 0).1
theorem topL_mem (l : List Int) (h : ∀ x ∈ l, 0 ≤ x) (hn : l ≠ []) : topL l ∈ l := by
  rcases (foldl_max_le l 0).2.2 with h1 | h1
  · cases l with
    | nil => exact absurd rfl hn
    | cons y l =>
      have h2 := topL_ge (y :: l) y List.mem_cons_self
      have h3 := h y List.mem_cons_self
      have h4 : topL (y :: l) = 0 := h1
      rw [h4] at h2 ⊢
      obtain rfl : y = 0 := by omega
      exact List.mem_cons_self
  · exact h1
theorem topL_nil : topL [] = 0 := rfl
theorem topL_snoc (l : List Int) (n : Int) : topL (l ++ [n]) = max (topL l) n := by simp [topL, List.foldl_append]

/-! ### Bits -/
theorem bitAt_nat (d : Int) (h : 0 ≤ d) : bitAt d = ((2 ^ (d.toNat % 64) : Nat) : Int) := by
  unfold bitAt
  have : (d % 64).toNat = d.toNat % 64 := by omega
  rw [this]
  exact (Int.natCast_pow 2 _).symm
theorem pow_lt64 (k : Nat) (h : k < 64) : 2 ^ k < 2 ^ 64 := Nat.pow_lt_pow_right (by omega) h
theorem and_two_pow_ne (x k : Nat) : (x &&& 2 ^ k = 0) ↔ x.testBit k = false := by
  constructor
  · intro h
    have := congrArg (Nat.testBit · k) h
    simpa [Nat.testBit_and, Nat.testBit_two_pow] using this
  · intro h
    apply Nat.eq_of_testBit_eq
    intro j
    rw [Nat.testBit_and, Nat.testBit_two_pow, Nat.zero_testBit]
    by_cases e : k = j
    · subst e; rw [h]; rfl
    · simp [e]
theorem and_bit (x : Nat) (hx : x < 2 ^ 64) (d : Int) (h : 0 ≤ d) : (bits .and .u64 x (bitAt d) != 0) = x.testBit (d.toNat % 64) := by
  rw [bitAt_nat d h, (bits_nat .u64 64 (by decide) (fun n h0 h1 => IntWalk.u64_in n ⟨h0, by omega⟩) x _ hx (pow_lt64 _ (Nat.mod_lt _ (by omega)))).1]
  have := and_two_pow_ne x (d.toNat % 64)
  cases hb : x.testBit (d.toNat % 64)
  · rw [this.2 hb]; rfl
  · simp only [bne_iff_ne, ne_eq]
    intro h0
    have h1 : x &&& 2 ^ (d.toNat % 64) = 0 := by omega
    rw [this.1 h1] at hb
    cases hb
theorem or_bits (x y : Nat) (hx : x < 2 ^ 64) (hy : y < 2 ^ 64) : bits .or .u64 x y = ((x ||| y : Nat) : Int) :=
  (bits_nat .u64 64 (by decide) (fun n h0 h1 => IntWalk.u64_in n ⟨h0, by omega⟩) x y hx hy).2

/-- The bit d of the two words. -/
def tb (x0 x1 : Nat) (d : Nat) : Bool := if d < 64 then x0.testBit d else x1.testBit (d - 64)

theorem shiftOne_nat (x0 x1 : Nat) (h0 : x0 < 2 ^ 64) (h1 : x1 < 2 ^ 64) :
    ∃ y0 y1 : Nat, shiftOne ((x0 : Int), (x1 : Int)) = ((y0 : Int), (y1 : Int)) ∧ y0 < 2 ^ 64 ∧ y1 < 2 ^ 64 ∧ ∀ d, d < 128 → tb y0 y1 d = (decide (1 ≤ d) && tb x0 x1 (d - 1)) := by
  have hw : ∀ x : Nat, IntKind.u64.wrap ((x : Int) * 2) = ((2 * x % 2 ^ 64 : Nat) : Int) := by
    intro x
    have : IntKind.u64.wrap ((x : Int) * 2) = ((x : Int) * 2) % 18446744073709551616 := by simp [IntKind.wrap, IntKind.bits, IntKind.signed]
    rw [this]
    omega
  have hd : ((x0 : Int) / 9223372036854775808) = ((x0 / 2 ^ 63 : Nat) : Int) := by omega
  have l0 : 2 * x0 % 2 ^ 64 < 2 ^ 64 := Nat.mod_lt _ (by omega)
  have l1 : 2 * x1 % 2 ^ 64 < 2 ^ 64 := Nat.mod_lt _ (by omega)
  have l2 : x0 / 2 ^ 63 < 2 := by omega
  have l3 : (2 * x1 % 2 ^ 64 ||| x0 / 2 ^ 63) < 2 ^ 64 := Nat.or_lt_two_pow l1 (by omega)
  refine ⟨2 * x0 % 2 ^ 64, 2 * x1 % 2 ^ 64 ||| x0 / 2 ^ 63, ?_, l0, l3, ?_⟩
  · unfold shiftOne
    simp only [hw, hd]
    rw [or_bits _ _ l1 (by omega)]
  · intro d hd
    have ht : ∀ (x j : Nat), (2 * x % 2 ^ 64).testBit j = (decide (j < 64) && (decide (1 ≤ j) && x.testBit (j - 1))) := by
      intro x j
      rw [Nat.testBit_mod_two_pow]
      congr 1
      cases j with
      | zero => simp [Nat.testBit_zero]
      | succ j =>
        rw [Nat.testBit_succ]
        simp
    have hs : ∀ j, (x0 / 2 ^ 63).testBit j = (x0.testBit (63 + j)) := by
      intro j
      rw [Nat.testBit_div_two_pow, Nat.add_comm]
    have hx : ∀ j, 64 ≤ j → x0.testBit j = false := fun j hj => Nat.testBit_lt_two_pow (Nat.lt_of_lt_of_le h0 (Nat.pow_le_pow_right (by omega) hj))
    unfold tb
    by_cases h64 : d < 64
    · rw [if_pos h64, ht, if_pos (by omega)]
      simp [h64]
    · rw [if_neg h64, Nat.testBit_or, ht, hs]
      have e1 : decide (d - 64 < 64) = true := by simp; omega
      have e2 : decide (1 ≤ d) = true := by simp; omega
      rw [e1, e2]
      simp only [Bool.true_and]
      by_cases h65 : d = 64
      · subst h65
        simp
      · rw [if_neg (by omega), hx _ (by omega)]
        have e3 : decide (1 ≤ d - 64) = true := by simp; omega
        rw [e3, show d - 64 - 1 = d - 1 - 64 by omega]
        simp

theorem shiftN_nat (x0 x1 : Nat) (h0 : x0 < 2 ^ 64) (h1 : x1 < 2 ^ 64) (k : Nat) :
    ∃ y0 y1 : Nat, shiftN k ((x0 : Int), (x1 : Int)) = ((y0 : Int), (y1 : Int)) ∧ y0 < 2 ^ 64 ∧ y1 < 2 ^ 64 ∧ ∀ d, d < 128 → tb y0 y1 d = (decide (k ≤ d) && tb x0 x1 (d - k)) := by
  induction k with
  | zero => exact ⟨x0, x1, rfl, h0, h1, fun d _ => by simp⟩
  | succ k ih =>
    obtain ⟨y0, y1, e, l0, l1, hb⟩ := ih
    obtain ⟨z0, z1, e', l0', l1', hb'⟩ := shiftOne_nat y0 y1 l0 l1
    refine ⟨z0, z1, by rw [shiftN, e, e'], l0', l1', fun d hd => ?_⟩
    rw [hb' d hd]
    by_cases h : 1 ≤ d
    · rw [hb (d - 1) (by omega)]
      have e1 : decide (1 ≤ d) = true := by simp; omega
      rw [e1, Bool.true_and, show d - 1 - k = d - (k + 1) by omega]
      congr 1
      simp only [decide_eq_decide]
      omega
    · have e1 : decide (1 ≤ d) = false := by simp; omega
      have e2 : decide (k + 1 ≤ d) = false := by simp; omega
      rw [e1, e2]
      rfl

/-! ### What the words stand for -/
structure Rep (s : Bool) (t c0 c1 : Int) (l : List Int) : Prop where
  some : s = true ↔ l ≠ []
  rng : ∀ x ∈ l, 0 ≤ x ∧ x < 18446744073709551616
  top : t = topL l
  bit : ∃ x0 x1 : Nat, c0 = x0 ∧ c1 = x1 ∧ x0 < 2 ^ 64 ∧ x1 < 2 ^ 64 ∧ ∀ d : Nat, d < 128 → tb x0 x1 d = decide (t - d ∈ l)

theorem Rep.zero : Rep false 0 0 0 [] := ⟨by simp, by simp, rfl, 0, 0, rfl, rfl, by omega, by omega, fun d _ => by simp [tb]⟩
theorem Rep.top_range {s t c0 c1 l} (h : Rep s t c0 c1 l) : 0 ≤ t ∧ t < 18446744073709551616 := by
  rw [h.top]
  refine ⟨topL_nonneg l, ?_⟩
  by_cases hn : l = []
  · subst hn; rw [topL_nil]; omega
  · exact (h.rng _ (topL_mem l (fun x hx => (h.rng x hx).1) hn)).2

theorem Rep.check {s t c0 c1 l} (h : Rep s t c0 c1 l) (n : Int) (h0 : 0 ≤ n) : checkF s t c0 c1 n = chk l n := by
  unfold checkF chk
  have ht := h.top
  cases hs : s
  · have hl : l = [] := by
      by_cases hl : l = []
      · exact hl
      · have := h.some.2 hl; rw [hs] at this; cases this
    subst hl
    rw [if_pos rfl, if_neg (by simp), if_neg (by rw [topL_nil]; omega)]
  · rw [if_neg (by simp)]
    by_cases h1 : t < n
    · have hn : n ∉ l := fun hm => by have := topL_ge l n hm; omega
      rw [if_pos h1, if_neg hn, if_neg (by omega)]
    · rw [if_neg h1]
      by_cases h2 : 128 ≤ t - n
      · rw [if_pos h2]
        by_cases hm : n ∈ l
        · rw [if_pos hm]
        · rw [if_neg hm, if_pos (by omega)]
      · rw [if_neg h2]
        obtain ⟨x0, x1, rfl, rfl, l0, l1, hb⟩ := h.bit
        have hd : 0 ≤ t - n := by omega
        have hbit : (bits .and .u64 (if t - n < 64 then (x0 : Int) else (x1 : Int)) (bitAt (t - n)) != 0) = tb x0 x1 (t - n).toNat := by
          unfold tb
          by_cases h4 : t - n < 64
          · rw [if_pos h4, and_bit x0 l0 _ hd, if_pos (by omega), Nat.mod_eq_of_lt (by omega)]
          · rw [if_neg h4, and_bit x1 l1 _ hd, if_neg (by omega)]
            congr 1
            omega
        rw [hbit, hb _ (by omega), show t - ((t - n).toNat : Int) = n by omega]
        by_cases hm : n ∈ l
        · simp [hm]
        · simp only [hm, decide_false, Bool.false_eq_true, if_false]
          rw [if_neg (by omega)]

theorem or_bit_nat (x : Nat) (hx : x < 2 ^ 64) (d : Int) (h : 0 ≤ d) : bits .or .u64 x (bitAt d) = ((x ||| 2 ^ (d.toNat % 64) : Nat) : Int) ∧ x ||| 2 ^ (d.toNat % 64) < 2 ^ 64 := by
  have hp := pow_lt64 (d.toNat % 64) (Nat.mod_lt _ (by omega))
  rw [bitAt_nat d h]
  exact ⟨or_bits _ _ hx hp, Nat.or_lt_two_pow hx hp⟩

theorem Rep.mark {s t c0 c1 l} (h : Rep s t c0 c1 l) (n : Int) (h0 : 0 ≤ n) (h1 : n < 18446744073709551616) (hc : checkF s t c0 c1 n = 0) :
    Rep true (markS s t c0 c1 n).1 (markS s t c0 c1 n).2.1 (markS s t c0 c1 n).2.2 (l ++ [n]) := by
  have hk : chk l n = 0 := by rw [← h.check n h0]; exact hc
  have hrng : ∀ x ∈ l ++ [n], 0 ≤ x ∧ x < 18446744073709551616 := by
    intro x hx
    rcases List.mem_append.1 hx with hx | hx
    · exact h.rng x hx
    · rw [List.mem_singleton.1 hx]; exact ⟨h0, h1⟩
  have ht := h.top
  obtain ⟨x0, x1, rfl, rfl, l0, l1, hb⟩ := h.bit
  have h2p : (2 : Nat) ^ ((0 : Int).toNat % 64) = 1 := rfl
  unfold markS
  cases hs : s
  · have hl : l = [] := by
      by_cases hl : l = []
      · exact hl
      · have := h.some.2 hl; rw [hs] at this; cases this
    subst hl
    obtain ⟨e1, e2⟩ := or_bit_nat x0 l0 0 (by omega)
    rw [h2p] at e1 e2
    rw [if_pos rfl]
    refine ⟨by simp, hrng, by rw [topL_snoc, topL_nil]; dsimp only; omega, x0 ||| 1, x1, e1, rfl, e2, l1, fun d hd => ?_⟩
    have hz := hb d hd
    rw [show (decide (t - (d : Int) ∈ ([] : List Int))) = false by simp] at hz
    dsimp only
    simp only [List.nil_append, List.mem_singleton]
    unfold tb at hz ⊢
    by_cases h64 : d < 64
    · rw [if_pos h64] at hz ⊢
      rw [Nat.testBit_or, hz, Bool.false_or, show (1 : Nat) = 2 ^ 0 from rfl, Nat.testBit_two_pow]
      simp only [decide_eq_decide]
      omega
    · rw [if_neg h64] at hz ⊢
      rw [hz]
      symm
      simp only [decide_eq_false_iff_not]
      omega
  · rw [if_neg (by simp)]
    by_cases h3 : t < n
    · rw [if_pos h3]
      obtain ⟨y0, y1, e, m0, m1, hb'⟩ := shiftN_nat x0 x1 l0 l1 (min (n - t) 128).toNat
      obtain ⟨e1, e2⟩ := or_bit_nat y0 m0 0 (by omega)
      rw [h2p] at e1 e2
      rw [e]
      refine ⟨by simp, hrng, by rw [topL_snoc]; dsimp only; omega, y0 ||| 1, y1, e1, rfl, e2, m1, fun d hd => ?_⟩
      have hz := hb' d hd
      have hor : tb (y0 ||| 1) y1 d = (tb y0 y1 d || decide (d = 0)) := by
        unfold tb
        by_cases h64 : d < 64
        · rw [if_pos h64, if_pos h64, Nat.testBit_or, show (1 : Nat) = 2 ^ 0 from rfl, Nat.testBit_two_pow]
          congr 1
          simp only [decide_eq_decide]
          omega
        · rw [if_neg h64, if_neg h64]
          have : decide (d = 0) = false := by simp; omega
          rw [this, Bool.or_false]
      rw [hor, hz]
      dsimp only
      by_cases hk2 : (min (n - t) 128).toNat ≤ d
      · have e5 : decide ((min (n - t) 128).toNat ≤ d) = true := by simp; omega
        rw [e5, Bool.true_and, hb _ (by omega), ← Bool.decide_or, decide_eq_decide, List.mem_append, List.mem_singleton, show t - ((d - (min (n - t) 128).toNat : Nat) : Int) = n - d by omega]
        have : d = 0 ↔ n - (d : Int) = n := by omega
        rw [this]
      · have e5 : decide ((min (n - t) 128).toNat ≤ d) = false := by simp; omega
        rw [e5, Bool.false_and, Bool.false_or, decide_eq_decide, List.mem_append, List.mem_singleton]
        have hnm : n - (d : Int) ∉ l := fun hm => by have := topL_ge l _ hm; omega
        simp only [hnm, false_or]
        omega
    · rw [if_neg h3]
      have hd0 : 0 ≤ t - n := by omega
      have hlt : t - n < 128 := by
        by_cases h9 : t - n < 128
        · exact h9
        · exfalso
          have : chk l n = 43 := by
            unfold chk
            by_cases hm : n ∈ l
            · rw [if_pos hm]
            · rw [if_neg hm, if_pos (by omega)]
          omega
      have hmax : (t : Int) = topL (l ++ [n]) := by rw [topL_snoc]; omega
      have key : ∀ d : Nat, d < 128 → (tb x0 x1 d || decide (d = (t - n).toNat)) = decide (t - (d : Int) ∈ l ++ [n]) := by
        intro d hd
        rw [hb d hd, ← Bool.decide_or, decide_eq_decide, List.mem_append, List.mem_singleton]
        have : d = (t - n).toNat ↔ t - (d : Int) = n := by omega
        rw [this]
      by_cases h4 : t - n < 64
      · rw [if_pos h4]
        obtain ⟨e1, e2⟩ := or_bit_nat x0 l0 (t - n) hd0
        refine ⟨by simp, hrng, hmax, _, x1, e1, rfl, e2, l1, fun d hd => ?_⟩
        rw [← key d hd]
        unfold tb
        by_cases h64 : d < 64
        · rw [if_pos h64, if_pos h64, Nat.testBit_or, Nat.testBit_two_pow]
          congr 1
          simp only [decide_eq_decide]
          omega
        · rw [if_neg h64, if_neg h64]
          have : decide (d = (t - n).toNat) = false := by simp; omega
          rw [this, Bool.or_false]
      · rw [if_neg h4]
        obtain ⟨e1, e2⟩ := or_bit_nat x1 l1 (t - n) hd0
        refine ⟨by simp, hrng, hmax, x0, _, rfl, e1, l0, e2, fun d hd => ?_⟩
        rw [← key d hd]
        unfold tb
        by_cases h64 : d < 64
        · rw [if_pos h64, if_pos h64]
          have : decide (d = (t - n).toNat) = false := by simp; omega
          rw [this, Bool.or_false]
        · rw [if_neg h64, if_neg h64, Nat.testBit_or, Nat.testBit_two_pow]
          congr 1
          simp only [decide_eq_decide]
          omega

end Go.Proofs.Ytkcjgkfgjbhfnaa
