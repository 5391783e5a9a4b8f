import Derived.Test.YtfklojheogidpaaLaw1
set_option linter.unusedVariables false
set_option linter.unusedSimpArgs false
namespace Go.Proofs.Ytfklojheogidpaa
open Go.RowKit Go.Proofs.YtfklojheogidpaaW.PrintWords Go.Proofs.YtfklojheogidpaaW.PrintLast Go.Proofs.YtfklojheogidpaaW.PrintMore

/-! ### low -/
theorem rd_nat (l : List Int) (n : Nat) : rd l (n : Int) = l.getD n 0 := by simp [rd]
theorem rd_zero (l : List Int) : rd l 0 = l.getD 0 0 := rfl
theorem rd_31 (l : List Int) : rd l 31 = l.getD 31 0 := rfl
theorem pow_mono' (i j : Nat) (h : i ≤ j) : (256 : Int) ^ i ≤ 256 ^ j := by
  obtain ⟨d, rfl⟩ : ∃ d, j = i + d := ⟨j - i, by omega⟩
  rw [Int.pow_add]
  have h1 := pow_pos' i
  have h2 := pow_pos' d
  have : (256 : Int) ^ i * 1 ≤ 256 ^ i * 256 ^ d := Int.mul_le_mul_of_nonneg_left (by omega) (by omega)
  omega
theorem low_loop (y : List Int) (hl : y.length = 32) (hb : Bytes y) (i : Nat) : i ≤ 30 → bval y = bval (y.take (i + 1)) + (HH - 256 ^ (i + 1)) →
    Ends (fun k => Ref.redanref05_low.l0 k y i) (decide (bval y < PP)) := by
  induction i with
  | zero =>
    intro hi he
    rw [bval_take_succ y 0 (by omega)] at he
    simp only [List.take_zero, bval] at he
    rw [Int.pow_zero, show (256 : Int) ^ (0 + 1) = 256 from rfl] at he
    have hg := hb.get 0
    refine Ends.now (fun k => ?_)
    simp only [Ref.redanref05_low.l0, rd_zero]
    rw [if_neg (by omega), if_pos (by omega)]
    congr 1
    refine decide_eq_decide.2 ?_
    unfold HH at he
    unfold PP
    omega
  | succ i ih =>
    intro hi he
    have he0 := he
    rw [bval_take_succ y (i + 1) (by omega)] at he
    have hg := hb.get (i + 1)
    have hp := pow_pos' i
    have hlt := (hb.take (i + 1)).lt
    rw [List.length_take, Nat.min_eq_left (by omega)] at hlt
    have hex : ∀ k, Ref.redanref05_low.l0 (k + 1) y ((i + 1 : Nat) : Int) = if y.getD (i + 1) 0 = 255 then Ref.redanref05_low.l0 k y i else some true := fun k => by
      simp only [Ref.redanref05_low.l0, rd_nat]
      rw [if_pos (by omega), if_pos (by omega), if_pos (by omega), w64 (by omega), show (((i + 1 : Nat) : Int) - 1) = (i : Int) by omega]
    rw [Int.pow_succ 256 (i + 1)] at he
    generalize hq : y.getD (i + 1) 0 = q at *
    by_cases h255 : q = 255
    · refine Ends.succ (ih (by omega) ?_) (fun k => by rw [hex, if_pos h255])
      subst h255
      omega
    · refine Ends.now (fun k => ?_)
      rw [hex, if_neg h255, show decide (bval y < PP) = true from decide_eq_true ?_]
      have h1 : q * 256 ^ (i + 1) ≤ 254 * 256 ^ (i + 1) := Int.mul_le_mul_of_nonneg_right (by omega) (by have := pow_pos' (i + 1); omega)
      have h2 : (256 : Int) ^ (i + 1) = 256 ^ i * 256 := Int.pow_succ _ _
      unfold HH at he
      unfold PP
      omega

theorem low_ok (y : List Int) (hl : y.length = 32) (hb : Bytes y) (hH : bval y < HH) : Ends (fun k => Ref.redanref05_low.f k y) (decide (bval y < PP)) := by
  have hg := hb.get 31
  have he := bval_take_succ y 31 (by omega)
  rw [List.take_of_length_le (by omega)] at he
  have hlt := (hb.take 31).lt
  have hn := (hb.take 31).nonneg
  rw [List.length_take, Nat.min_eq_left (by omega)] at hlt
  have hP : (256 : Int) ^ 31 = 452312848583266388373324160190187140051835877600158453279131187530910662656 := rfl
  rw [hP] at he hlt
  have hex : ∀ k, Ref.redanref05_low.f k y = if y.getD 31 0 = 127 then Ref.redanref05_low.l0 k y 30 else some (decide (y.getD 31 0 < 127)) := fun k => by
    simp only [Ref.redanref05_low.f, rd_31]
    rw [if_pos (by omega)]
    rfl
  by_cases h127 : y.getD 31 0 = 127
  · refine Ends.same (low_loop y hl hb 30 (Nat.le_refl _) ?_) (fun k => by rw [hex, if_pos h127]; rfl)
    rw [h127] at he
    show bval y = bval (y.take 31) + (HH - 256 ^ 31)
    rw [hP]
    unfold HH
    omega
  · refine Ends.here (fun k => ?_)
    rw [hex, if_neg h127]
    congr 1
    rw [decide_eq_decide]
    unfold HH at hH
    unfold PP
    constructor <;> intro h <;> omega

/-! ### Mod -/
theorem l2_ok (x0 : List Int) (hb : Bytes x0) (hl : 32 ≤ x0.length) (h2 : x0.length ≤ 1000) {r : List Int} (hr : Ends (fun k => Ref.redanref05_Mod.j3 k x0 (decide (bval x0 < HH))) r) (n : Nat) :
    ∀ i, i + n = x0.length → 32 ≤ i → Ends (fun k => Ref.redanref05_Mod.l2 k x0 (decide (256 ^ 32 ≤ bval (x0.take i))) i) r := by
  induction n with
  | zero =>
    intro i hi h32
    obtain rfl : i = x0.length := by omega
    refine Ends.succ hr (fun k => ?_)
    simp only [Ref.redanref05_Mod.l2]
    rw [if_neg (by omega)]
    rw [List.take_of_length_le (Nat.le_refl _)]
    have hP : (256 : Int) ^ 32 = 115792089237316195423570985008687907853269984665640564039457584007913129639936 := rfl
    rw [hP]
    by_cases hh : 115792089237316195423570985008687907853269984665640564039457584007913129639936 ≤ bval x0
    · rw [if_pos (decide_eq_true hh), show decide (bval x0 < HH) = false from decide_eq_false (by unfold HH; omega)]
    · rw [if_neg (by simpa using hh), if_pos (by omega)]
      congr 1
      rw [decide_eq_decide]
      have e : bval x0 = bval (x0.take 31) + 256 ^ 31 * bval (x0.drop 31) := by
        have := bval_append (x0.take 31) (x0.drop 31)
        rw [List.take_append_drop, List.length_take, Nat.min_eq_left (by omega)] at this
        exact this
      have e2 : x0.drop 31 = x0.getD 31 0 :: x0.drop 32 := by
        rw [List.drop_eq_getElem_cons (by omega), List.getD_eq_getElem?_getD, List.getElem?_eq_getElem (by omega)]; rfl
      rw [e2] at e
      simp only [bval] at e
      have h31 : (256 : Int) ^ 31 = 452312848583266388373324160190187140051835877600158453279131187530910662656 := rfl
      have h4 := (hb.take 31).lt
      have h5 := (hb.take 31).nonneg
      have h6 := (hb.drop 32).nonneg
      have h7 := hb.get 31
      rw [List.length_take, Nat.min_eq_left (by omega)] at h4
      rw [h31] at e h4
      unfold HH
      rw [rd_31]
      omega
  | succ n ih =>
    intro i hi h32
    have h := ih (i + 1) (by omega) (by omega)
    rw [bval_take_succ x0 i (by omega)] at h
    have hg := hb.get i
    have hn := (hb.take i).nonneg
    have hlt := (hb.take i).lt
    rw [List.length_take, Nat.min_eq_left (by omega)] at hlt
    have hpw : (256 : Int) ^ 32 ≤ 256 ^ i := pow_mono' 32 i h32
    have hpp := pow_pos' i
    refine Ends.succ h (fun k => ?_)
    simp only [Ref.redanref05_Mod.l2]
    rw [if_pos (by omega), w64 (by omega), show ((i : Int) + 1) = ((i + 1 : Nat) : Int) by omega]
    by_cases hh : 256 ^ 32 ≤ bval (x0.take i)
    · rw [if_pos (decide_eq_true hh), show decide (256 ^ 32 ≤ bval (x0.take i) + x0.getD i 0 * 256 ^ i) = true from decide_eq_true ?_]
      have : 0 ≤ x0.getD i 0 * 256 ^ i := Int.mul_nonneg hg.1 (by omega)
      omega
    · rw [if_neg (by simpa using hh), if_pos (by omega)]
      congr 1
      rw [decide_eq_decide]
      rw [rd_nat]
      constructor
      · intro h3
        have : 1 * 256 ^ i ≤ x0.getD i 0 * 256 ^ i := Int.mul_le_mul_of_nonneg_right (by omega) (by omega)
        omega
      · intro h3
        by_cases h0 : x0.getD i 0 = 0
        · rw [h0] at h3; omega
        · omega


theorem l3_ok (x0 : List Int) (hl : 32 ≤ x0.length) (h2 : x0.length ≤ 1000) {r : List Int} (hr : Ends (fun k => Ref.redanref05_Mod.l4 k x0 ((x0.take 32 ++ List.replicate (x0.length - 32) 0).set 31 (Int.tmod (x0.getD 31 0) 128)) 0) r) (n : Nat) :
    ∀ i, i + n = 32 → Ends (fun k => Ref.redanref05_Mod.l3 k x0 (x0.take i ++ List.replicate (x0.length - i) 0) i) r := by
  induction n with
  | zero =>
    intro i hi
    obtain rfl : i = 32 := by omega
    refine Ends.succ hr (fun k => ?_)
    simp only [Ref.redanref05_Mod.l3, rd_31]
    rw [if_neg (by omega), if_pos (by omega), if_pos (by simp; omega)]
    rfl
  | succ n ih =>
    intro i hi
    refine Ends.succ (ih (i + 1) (by omega)) (fun k => ?_)
    simp only [Ref.redanref05_Mod.l3, rd_nat]
    rw [if_pos (by omega), if_pos (by omega), if_pos (by omega), if_pos (by simp; omega), w64 (by omega), Int.toNat_natCast, show ((i : Int) + 1) = ((i + 1 : Nat) : Int) by omega]
    congr 1
    rw [show x0.length - i = (x0.length - (i + 1)) + 1 by omega, List.replicate_succ, List.set_append_right _ _ (by simp; omega), List.length_take, Nat.min_eq_left (by omega), Nat.sub_self, List.set_cons_zero]
    rw [List.take_succ_eq_append_getElem (by omega), List.append_assoc, List.singleton_append]
    congr 2
    rw [List.getD_eq_getElem?_getD, List.getElem?_eq_getElem (by omega)]; rfl

/-- What the fold adds. -/
theorem l4_ok (x0 : List Int) (hb : Bytes x0) (hl : 32 ≤ x0.length) (h2 : x0.length ≤ 200) (N0 : Int) {r : List Int}
    (hr : ∀ out : List Int, out.length = x0.length → Digs 1000000 out → 128 * (bval out - N0) = 19 * (bval (x0.drop 31) - x0.getD 31 0 % 128) → Ends (fun k => (Ref.redanref05_carry.f k out).bind fun t157 => Ref.redanref05_Mod.l0 k t157) r) (n : Nat) :
    ∀ (i : Nat) (out : List Int), i + 31 + n = x0.length → out.length = x0.length → Digs 1000000 out → (∀ j, i ≤ j → 0 ≤ out.getD j 0 ∧ out.getD j 0 < 256) →
      128 * (bval out - N0) = 19 * (bval ((x0.drop 31).take i) + (x0.getD (31 + i) 0 % 128) * 256 ^ i - x0.getD 31 0 % 128) → Ends (fun k => Ref.redanref05_Mod.l4 k x0 out i) r := by
  induction n with
  | zero =>
    intro i out hi ho hd hj he
    refine Ends.succ (hr out ho hd ?_) (fun k => ?_)
    · rw [he, List.take_of_length_le (by simp; omega), show x0.getD (31 + i) 0 = 0 by rw [List.getD_eq_getElem?_getD, List.getElem?_eq_none (by omega)]; rfl]
      simp
    · simp only [Ref.redanref05_Mod.l4]
      rw [w64 (by omega), if_neg (by omega)]
  | succ n ih =>
    intro i out hi ho hd hj he
    have ha := hb.get (31 + i)
    have hb1 := hb.get (31 + (i + 1))
    have hc := hj i (Nat.le_refl _)
    have hp := pow_pos' i
    have e31 : (x0.drop 31).getD i 0 = x0.getD (31 + i) 0 := by
      rw [List.getD_eq_getElem?_getD, List.getD_eq_getElem?_getD, List.getElem?_drop]
    obtain ⟨a, hga⟩ : ∃ a, x0.getD (31 + i) 0 = a := ⟨_, rfl⟩
    obtain ⟨b, hgb⟩ : ∃ b, x0.getD (31 + (i + 1)) 0 = b := ⟨_, rfl⟩
    obtain ⟨c, hgc⟩ : ∃ c, out.getD i 0 = c := ⟨_, rfl⟩
    rw [hga] at ha he e31
    rw [hgb] at hb1
    rw [hgc] at hc
    have hstep := ih (i + 1) (out.set i (c + 19 * (a / 128 + b % 128 * 2))) (by omega) (by simp [ho])
      (by
        intro x hx
        rcases List.mem_or_eq_of_mem_set hx with h | h
        · exact hd x h
        · rw [h]; omega)
      (by
        intro j hji
        rw [List.getD_eq_getElem?_getD, List.getElem?_set_ne (by omega), ← List.getD_eq_getElem?_getD]
        exact hj j (by omega))
      (by
        rw [bval_set _ _ _ (by omega), hgc, bval_take_succ _ _ (by simp; omega), e31, hgb, Int.pow_succ]
        have h5 : a = 128 * (a / 128) + a % 128 := by omega
        have h6 : 128 * (bval out + (c + 19 * (a / 128 + b % 128 * 2) - c) * 256 ^ i - N0) = 128 * (bval out - N0) + 19 * (128 * (a / 128) * 256 ^ i + b % 128 * 256 * 256 ^ i) := by grind
        have h7 : a * 256 ^ i = 128 * (a / 128) * 256 ^ i + a % 128 * 256 ^ i := by
          have : a * 256 ^ i = (128 * (a / 128) + a % 128) * 256 ^ i := by rw [← h5]
          rw [this, Int.add_mul]
        rw [h6, he, h7]
        have h8 : b % 128 * (256 ^ i * 256) = b % 128 * 256 * 256 ^ i := by grind
        rw [h8]
        omega)
    refine Ends.succ hstep (fun k => ?_)
    simp only [Ref.redanref05_Mod.l4]
    rw [w64 (n := (i : Int) + 31) (by omega), w64 (n := (i : Int) + 32) (by omega), w64 (n := (i : Int) + 1) (by omega), show ((i : Int) + 31) = ((31 + i : Nat) : Int) by omega, show ((i : Int) + 32) = ((31 + (i + 1) : Nat) : Int) by omega, show ((i : Int) + 1) = ((i + 1 : Nat) : Int) by omega, rd_nat, rd_nat, rd_nat, hga, hgb, hgc, Int.tdiv_eq_ediv_of_nonneg ha.1, Int.tmod_eq_emod_of_nonneg hb1.1, Int.toNat_natCast]
    rw [if_pos (by omega), if_pos (by omega)]
    by_cases h32 : (((31 + (i + 1) : Nat) : Int)) < (x0.length : Int)
    · rw [if_pos h32, if_pos (by omega), if_pos (by omega), if_pos (by omega)]
      rw [w64 (n := a / 128) (by omega), w64 (n := b % 128 * 2) (by omega), w64 (n := a / 128 + b % 128 * 2) (by omega), w64 (n := 19 * (a / 128 + b % 128 * 2)) (by omega), w64 (by omega)]
    · have hb0 : b = 0 := by
        rw [← hgb, List.getD_eq_getElem?_getD, List.getElem?_eq_none (by omega)]; rfl
      subst hb0
      rw [if_neg h32, if_pos (by omega), if_pos (by omega)]
      rw [w64 (n := a / 128) (by omega), w64 (n := 19 * (a / 128)) (by omega), w64 (by omega)]
      simp

theorem l1_ok {r : List Int} (n : Nat) : ∀ x0 : List Int, 32 - x0.length = n → x0.length ≤ 1000 → Ends (fun k => Ref.redanref05_Mod.l2 k (x0 ++ List.replicate (32 - x0.length) 0) false 32) r → Ends (fun k => Ref.redanref05_Mod.l1 k x0) r := by
  induction n with
  | zero =>
    intro x0 hn hl hr
    refine Ends.succ hr (fun k => ?_)
    simp only [Ref.redanref05_Mod.l1]
    rw [if_neg (by omega), hn, List.replicate_zero, List.append_nil]
  | succ n ih =>
    intro x0 hn hl hr
    refine Ends.succ (ih (x0 ++ [0]) (by simp; omega) (by simp; omega) ?_) (fun k => ?_)
    · have e : x0 ++ [0] ++ List.replicate (32 - (x0 ++ [0]).length) 0 = x0 ++ List.replicate (32 - x0.length) 0 := by
        rw [List.append_assoc, List.length_append, List.length_singleton, show 32 - x0.length = (32 - (x0.length + 1)) + 1 by omega, List.replicate_succ]
        rfl
      rw [e]
      exact hr
    · simp only [Ref.redanref05_Mod.l1]
      rw [if_pos (by omega), if_pos (by omega)]

theorem bval_split (x0 : List Int) (i : Nat) (h : i ≤ x0.length) : bval x0 = bval (x0.take i) + 256 ^ i * bval (x0.drop i) := by
  have := bval_append (x0.take i) (x0.drop i)
  rw [List.take_append_drop, List.length_take, Nat.min_eq_left h] at this
  exact this

theorem j3_true (x0 : List Int) (hb : Bytes x0) (hl : 32 ≤ x0.length) (hH : bval x0 < HH) : Ends (fun k => Ref.redanref05_Mod.j3 k x0 true) (D (bval x0)) := by
  have hs := bval_split x0 32 hl
  have hP : (256 : Int) ^ 32 = 115792089237316195423570985008687907853269984665640564039457584007913129639936 := rfl
  rw [hP] at hs
  have h1 := (hb.take 32).nonneg
  have h2 := (hb.drop 32).nonneg
  have hv : bval (x0.take 32) = bval x0 := by unfold HH at hH; omega
  have hlen : (x0.take 32).length = 32 := by rw [List.length_take]; omega
  have hlow := low_ok (x0.take 32) hlen (hb.take 32) (by rw [hv]; exact hH)
  rw [hv] at hlow
  have hn : 0 ≤ bval x0 := hb.nonneg
  have hy0 : (x0.take 32).getD 0 0 = bval x0 % 256 := by
    have hc : x0.take 32 = (x0.take 32).getD 0 0 :: (x0.take 32).drop 1 := by
      match hx : x0.take 32, hlen with
      | a :: t, _ => rfl
    have hq : bval (x0.take 32) = (x0.take 32).getD 0 0 + 256 * bval ((x0.take 32).drop 1) := congrArg bval hc
    have hg := (hb.take 32).get 0
    rw [← hv]
    omega
  have key : Ends (fun k => (Ref.redanref05_low.f k (x0.take 32)).bind fun t138 => (if t138 = true then (some (x0.take 32)) else (if 32 ≤ 35184372088832 then ((some (List.replicate 32 0 : List Int)).bind fun y139 => (if 0 < ((x0.take 32).length : Int) then (if 0 < (y139.length : Int) then (some (y139.set (0 : Int).toNat (wrap64 ((rd (x0.take 32) 0) - 237)))) else (none)) else (none))) else (none)))) (D (bval x0)) := by
    refine hlow.bind (Ends.here (fun k => ?_))
    by_cases hp : bval x0 < PP
    · rw [if_pos (decide_eq_true hp)]
      congr 1
      rw [D_of hlen (hb.take 32) (by rw [hv]; exact hp), hv]
    · rw [if_neg (by simpa using hp), if_pos (by decide), Option.bind_some, if_pos (by omega), if_pos (by simp), rd_zero, hy0, w64 (by omega)]
      congr 1
      have hx : bval x0 % 256 - 237 = bval x0 - PP := by unfold HH at hH; unfold PP at hp ⊢; omega
      rw [hx]
      have hset : bval ((List.replicate 32 (0 : Int)).set 0 (bval x0 - PP)) = bval x0 - PP := by
        rw [bval_set _ _ _ (by simp), bval_zeros, Int.pow_zero]
        simp
      have hD := D_of (l := (List.replicate 32 (0 : Int)).set 0 (bval x0 - PP)) (by simp) (by
        intro x hx
        rcases List.mem_or_eq_of_mem_set hx with h | h
        · rw [(List.mem_replicate.1 h).2]; omega
        · rw [h]; unfold HH at hH; unfold PP at hp ⊢; omega) (by rw [hset]; unfold HH at hH; unfold PP at hp ⊢; omega)
      rw [hset] at hD
      show (List.replicate 32 (0 : Int)).set 0 (bval x0 - PP) = D (bval x0)
      rw [hD]
      exact D_eq (by unfold PP; omega)
  refine Ends.succ key (fun k => ?_)
  simp only [Ref.redanref05_Mod.j3, if_true]
  rw [if_pos (by omega), Option.bind_some]
  rfl

theorem Mod_loop (n : Nat) : ∀ x0 : List Int, Bytes x0 → x0.length ≤ 100 → bval x0 < 256 ^ 99 → (bval x0).toNat = n → Ends (fun k => Ref.redanref05_Mod.l0 k x0) (D (bval x0)) := by
  induction n using Nat.strongRecOn with
  | ind n ih =>
    intro y hby hly hvy hn
    refine Ends.succ (f := fun k => Ref.redanref05_Mod.l1 k y) ?_ (fun k => by simp only [Ref.redanref05_Mod.l0])
    refine l1_ok _ y rfl (by omega) ?_
    have hval : bval (y ++ List.replicate (32 - y.length) 0) = bval y := by rw [bval_append, bval_zeros, Int.mul_zero, Int.add_zero]
    have hb : Bytes (y ++ List.replicate (32 - y.length) 0) := hby.append (Bytes.zeros _)
    have hl : 32 ≤ (y ++ List.replicate (32 - y.length) 0).length := by simp; omega
    have hl2 : (y ++ List.replicate (32 - y.length) 0).length ≤ 100 := by simp; omega
    generalize y ++ List.replicate (32 - y.length) 0 = x0 at *
    have h32 := (hb.take 32).lt
    rw [List.length_take, Nat.min_eq_left hl] at h32
    have key : Ends (fun k => Ref.redanref05_Mod.j3 k x0 (decide (bval x0 < HH))) (D (bval y)) := by
      rw [hval]
      by_cases hH : bval y < HH
      · rw [decide_eq_true hH]
        rw [← hval] at hH ⊢
        exact j3_true x0 hb hl hH
      · rw [decide_eq_false hH]
        have hg := hb.get 31
        have hs31 := bval_split x0 31 (by omega)
        have hP : (256 : Int) ^ 31 = 452312848583266388373324160190187140051835877600158453279131187530910662656 := rfl
        have hlt := (hb.take 31).lt
        have hnn := (hb.take 31).nonneg
        rw [List.length_take, Nat.min_eq_left (by omega), hP] at hlt
        have hdc : x0.drop 31 = x0.getD 31 0 :: x0.drop 32 := by
          rw [List.drop_eq_getElem_cons (by omega), List.getD_eq_getElem?_getD, List.getElem?_eq_getElem (by omega)]; rfl
        have hdv : bval (x0.drop 31) = x0.getD 31 0 + 256 * bval (x0.drop 32) := by rw [hdc]; rfl
        rw [hP] at hs31
        -- the row that is filled
        have ho1 : ((x0.take 32 ++ List.replicate (x0.length - 32) 0).set 31 (x0.getD 31 0 % 128)).length = x0.length := by simp; omega
        have ho2 : Bytes ((x0.take 32 ++ List.replicate (x0.length - 32) 0).set 31 (x0.getD 31 0 % 128)) := by
          intro x hx
          rcases List.mem_or_eq_of_mem_set hx with h | h
          · exact ((hb.take 32).append (Bytes.zeros _)) x h
          · rw [h]; omega
        have ho3 : bval ((x0.take 32 ++ List.replicate (x0.length - 32) 0).set 31 (x0.getD 31 0 % 128)) = bval y % HH := by
          rw [bval_set _ _ _ (by simp; omega), bval_append, bval_zeros, hP]
          have e1 : (x0.take 32 ++ List.replicate (x0.length - 32) 0).getD 31 0 = x0.getD 31 0 := by
            rw [List.getD_eq_getElem?_getD, List.getElem?_append_left (by simp; omega), List.getElem?_take, if_pos (by omega), ← List.getD_eq_getElem?_getD]
          rw [e1, bval_take_succ x0 31 (by omega), hP, ← hval]
          unfold HH
          omega
        refine Ends.succ (f := fun k => Ref.redanref05_Mod.l3 k x0 (List.replicate x0.length 0) 0) ?_ (fun k => ?_)
        rotate_left
        · simp only [Ref.redanref05_Mod.j3]
          rw [if_neg (by decide), if_pos (by omega), if_pos (by omega)]
          rfl
        refine l3_ok x0 hl (by omega) ?_ 32 0 rfl
        rw [Int.tmod_eq_emod_of_nonneg hg.1]
        refine l4_ok x0 hb hl (by omega) (bval y % HH) ?_ (x0.length - 31) 0 _ (by omega) ho1 (fun x hx => by have := ho2 x hx; omega) (fun j _ => ho2.get j) (by rw [ho3]; simp [bval])
        intro out hol hod hov
        have hval2 : bval out = bval y % HH + 19 * (bval y / HH) := by rw [← hval] at hov ⊢; unfold HH at hov ⊢; omega
        obtain ⟨t, ht, ht1, ht2, ht3, ht4⟩ := carry_ok out 1000000 (by omega) (by omega) hod (by omega)
        refine ht.bind ?_
        have hlt2 : bval t < bval y := by rw [ht2, hval2]; unfold HH at hH ⊢; omega
        have h0t := ht1.nonneg
        have hlen : t.length ≤ 100 := by
          rcases ht4 with h | h
          · omega
          · rcases Nat.lt_or_ge 100 t.length with h3 | h3
            · have := pow_mono' 99 (t.length - 1) (by omega)
              omega
            · exact h3
        have hrec := ih (bval t).toNat (by omega) t ht1 hlen (by omega) rfl
        have e : D (bval t) = D (bval y) := D_eq (by rw [ht2, hval2]; unfold HH PP; omega)
        rw [e] at hrec
        exact hrec
    have h := l2_ok x0 hb hl (by omega) key (x0.length - 32) 32 (by omega) (Nat.le_refl _)
    rw [decide_eq_false (by omega)] at h
    exact h

theorem Mod_ok (l : List Int) (M : Int) (hM0 : 0 ≤ M) (hM : M ≤ 1099511627776) (hd : Digs M l) (hl : l.length ≤ 64) : Ends (fun k => Ref.redanref05_Mod.f k l) (D (bval l)) := by
  obtain ⟨t, ht, ht1, ht2, ht3, ht4⟩ := carry_ok l M hM0 hM hd (by omega)
  have hbound : bval l < 256 ^ 99 := by
    have : ∀ l : List Int, Digs M l → bval l + 1099511627776 ≤ 2199023255552 * 256 ^ l.length := by
      intro l
      induction l with
      | nil => intro _; simp [bval]
      | cons x l ih =>
        intro h
        have h1 := h x (by simp)
        have h2 := ih (fun y hy => h y (by simp [hy]))
        have h3 := pow_pos' l.length
        simp only [bval, List.length_cons, Int.pow_succ]
        omega
    have h1 := this l hd
    have h2 := pow_mono' l.length 64 hl
    rw [show (256 : Int) ^ 99 = 256 ^ 64 * 256 ^ 35 from rfl]
    generalize (256 : Int) ^ 64 = p at *
    have h3 : (256 : Int) ^ 35 = 1942668892225729070919461906823518906642406839052139521251812409738904285205208498176 := rfl
    rw [h3]
    have h4 := pow_pos' l.length
    omega
  have hlen : t.length ≤ 100 := by
    rcases ht4 with h | h
    · omega
    · rcases Nat.lt_or_ge 100 t.length with h3 | h3
      · have := pow_mono' 99 (t.length - 1) (by omega)
        omega
      · exact h3
  have := Mod_loop _ t ht1 hlen (by omega) rfl
  rw [ht2] at this
  exact ht.bind this

end Go.Proofs.Ytfklojheogidpaa
