-- contracts that the kit's print wrote for this claim, cut by wip/tools/cutprint.py
import Derived.Test.YtfklojheogidpaaRef0
namespace Go.Proofs.Ytfklojheogidpaa.Ref
open Go.RowKit Go.Proofs.YtfklojheogidpaaW.PrintWords Go.Proofs.YtfklojheogidpaaW.PrintLast Go.Proofs.YtfklojheogidpaaW.PrintMore
attribute [local go_sem] max2_int min2_int max_two min_two max_three min_three max_four min_four   -- for this text's walks alone
set_option linter.unusedVariables false
set_option linter.unusedSimpArgs false


/-! ### words_Load: function 50 -/
def words_Load.l0 : Nat → List Int → Int → Int → Int → Option (Int)
  | 0, _, _, _, _ => none
  | k + 1, x0, x3, x7, x8 => if x8 < x7 then (if 0 ≤ x8 then (if x8 < (x0.length : Int) then (if 0 ≤ (IntKind.u64.wrap (wrap64 (8 * x8))) then (words_Load.l0 k x0 (Go.bits .or .u64 x3 (shl .u64 (IntKind.u64.wrap (rd x0 x8)) (IntKind.u64.wrap (wrap64 (8 * x8))))) x7 (wrap64 (x8 + 1))) else (none)) else (none)) else (none)) else (some x3)
def words_Load.f (k : Nat) (l0 : List Int) : Option (Int) := words_Load.l0 k l0 0 (mn (l0.length : Int) 8) 0
theorem words_Load.mono_l : ∀ k, (∀ y0 y1 y2 y3, LeO (words_Load.l0 k y0 y1 y2 y3) (words_Load.l0 (k + 1) y0 y1 y2 y3))
  | 0 => fun _ _ _ _ r h => by simp [words_Load.l0] at h
  | k + 1 => by
    have ih0 := words_Load.mono_l k
    · intro y0 y1 y2 y3
      unfold words_Load.l0
      repeat' first
      | (with_reducible exact ih0 _ _ _ _)
      | (with_reducible exact LeO.refl _)
      | (with_reducible exact LeO.none _)
      | (with_reducible refine LeO.ite ?_ ?_)
      | (with_reducible refine LeO.bind ?_ (fun _ => ?_))
      | exact ih0 _ _ _ _
      | exact LeO.none _
      | refine LeO.ite ?_ ?_
      | refine LeO.bind ?_ (fun _ => ?_)
theorem words_Load.mono : ∀ a0 k, LeO (words_Load.f k a0) (words_Load.f (k + 1) a0) := by
  intro a0 k
  have ih0 := words_Load.mono_l k
  unfold words_Load.f
  repeat' first
      | (with_reducible exact ih0 _ _ _ _)
      | (with_reducible exact LeO.refl _)
      | (with_reducible exact LeO.none _)
      | (with_reducible refine LeO.ite ?_ ?_)
      | (with_reducible refine LeO.bind ?_ (fun _ => ?_))
      | exact ih0 _ _ _ _
      | exact LeO.none _
      | refine LeO.ite ?_ ?_
      | refine LeO.bind ?_ (fun _ => ?_)
set_option maxHeartbeats 8000000 in
set_option maxRecDepth 100000 in
theorem words_Load.calls (k : Nat) (A0 : Option Addr) (c0 : Nat) (l0 : List Int) (r : Int) (w : World) (hr0 : Kd.C (Kd.int .u8) w A0 l0.length l0) (hc0 : l0.length ≤ c0) (h : words_Load.f k l0 = some r) :
    Calls Try.prog 50 #[.slice A0 l0.length c0] w fun e w' => e = .returned (.int .u64 r) ∧ Below w.heap.size w w' := by
  have HR0 := Aside0.mk hr0
  have HC0 := Aside0.mk hc0
  clear hr0 hc0
  have HB := Aside0.mk (Below.refl w.heap.size w)
  have H : (words_Load.l0 k l0 0 (mn (l0.length : Int) 8) 0) = some r := h
  clear h
  obtain ⟨ji2, hji2⟩ : ∃ j_ : Int, (mn (l0.length : Int) 8) = j_ := ⟨_, rfl⟩
  replace H : (words_Load.l0 k l0 0 ji2 0) = some r := by first | (rw [hji2] at H; exact H) | (simp only [hji2] at H ⊢; exact H)
  (try (have hji2h : ji2 ≤ 8 := by (rw [← hji2]; unfold mn; (repeat' split) <;> omega)))
  (try (have hji2g : ji2 ≤ 64 := by omega))
  (try (have hji2l : 0 ≤ ji2 := by (rw [← hji2]; unfold mn; (repeat' split) <;> omega)))
  (try (have hji2m : 0 ≤ ji2 := by omega))
  have hji2_ : (if 8 < (l0.length : Int) then 8 else (l0.length : Int)) = ji2 := hji2
  have H' := Aside0.mk H
  clear H
  go_enter Try.func50, Try.ntmps50
  go_wp2
  go_loopg [3, 8] k (fun kq v3 v8 w' => ∃ (x3_1 : Int) (x8_1 : Int), v3 = .int .u64 x3_1 ∧ v8 = .int .i64 x8_1 ∧ Aside0 (words_Load.l0 kq l0 x3_1 ji2 x8_1 = some r) ∧ Aside0 (kq ≤ k) ∧ Aside0 (Below w.heap.size w w'))
  case atStart => exact ⟨(0), (0), (by first | rfl | (simp; done) | (simp [*]; done)), (by first | rfl | (simp; done) | (simp [*]; done)), H', ⟨Nat.le_refl _⟩, ⟨by repeat (first | (with_reducible first | exact HB.out | apply below_alloc | apply pw_below_drewN | apply below_drew1) | exact HB.out)⟩⟩
  case round =>
    clear H'
    try clear p2
    obtain ⟨x3_1, x8_1, rfl, rfl, HA, HK1, HB⟩ := hrel
    cases gk with
    | zero => exact absurd HA.out (by simp [words_Load.l0])
    | succ k1 =>
      have H := HA.out
      clear HA
      simp only [words_Load.l0] at H
      by_cases c3 : x8_1 < ji2
      · rw [if_pos c3] at H
        have c3b0 : decide (x8_1 < ji2) = true := decide_eq_true c3
        clear c3
        by_cases c4 : 0 ≤ x8_1
        · rw [if_pos c4] at H
          have c4b0 : decide (0 ≤ x8_1) = true := decide_eq_true c4
          clear c4
          by_cases c5 : x8_1 < (l0.length : Int)
          · rw [if_pos c5] at H
            have c5b0 : decide (x8_1 < (l0.length : Int)) = true := decide_eq_true c5
            clear c5
            obtain ⟨ji6, hji6⟩ : ∃ j_ : Int, (IntKind.u64.wrap (wrap64 (8 * x8_1))) = j_ := ⟨_, rfl⟩
            replace H : (if 0 ≤ (ji6) then (words_Load.l0 k1 l0 (Go.bits .or .u64 x3_1 (shl .u64 (IntKind.u64.wrap (rd l0 x8_1)) (ji6))) ji2 (wrap64 (x8_1 + 1))) else (none)) = some r := by first | (rw [hji6] at H; exact H) | (simp only [hji6] at H ⊢; exact H)
            by_cases c7 : 0 ≤ (ji6)
            · rw [if_pos c7] at H
              have c7b0 := eq_true c7
              have c7b1 : decide (0 ≤ (ji6)) = true := decide_eq_true c7
              clear c7
              obtain ⟨ji8, hji8⟩ : ∃ j_ : Int, (shl .u64 (IntKind.u64.wrap (rd l0 x8_1)) (ji6)) = j_ := ⟨_, rfl⟩
              replace H : (words_Load.l0 k1 l0 (Go.bits .or .u64 x3_1 (ji8)) ji2 (wrap64 (x8_1 + 1))) = some r := by first | (rw [hji8] at H; exact H) | (simp only [hji8] at H ⊢; exact H)
              have hji8_ : (IntKind.u64.wrap ((IntKind.u64.wrap (rd l0 x8_1)) * 2 ^ min (ji6).toNat 64)) = ji8 := hji8
              have hji8z : (ji6) ≤ 64 → (IntKind.u64.wrap ((IntKind.u64.wrap (rd l0 x8_1)) * 2 ^ (ji6).toNat)) = ji8 := shl_small hji8
              have H' := Aside0.mk H
              clear H
              have p101 : 0 ≤ (x8_1 : Int) := of_decide_eq_true (by first | (with_reducible assumption) | assumption)
              have q101 : x8_1 < (l0.length : Int) := of_decide_eq_true (by first | (with_reducible assumption) | assumption)
              obtain ⟨ad101, e101, hx101_0⟩ := Kd.at_int HR0.out x8_1 p101 q101
              cases e101
              replace hx101_0 := (HB.out.cell (World.block_lt_of_cell? w _ hx101_0)).trans hx101_0
              replace p101 := eq_true p101
              replace q101 := eq_true q101
              go_wp2
              go_roundg k1
              case measure => have := HK1.out; omega
              case rel => exact ⟨(Go.bits .or .u64 x3_1 (ji8)), (wrap64 (x8_1 + 1)), (by first | rfl | (simp; done) | (simp only [← hji8] <;> (first | rfl | simp)) | (simp [*]; done)), (by first | rfl | (simp; done) | (simp [*]; done)), H', ⟨by have := HK1.out; omega⟩, ⟨by repeat (first | (with_reducible first | exact HB.out | apply below_alloc | apply pw_below_drewN | apply below_drew1) | exact HB.out)⟩⟩
            · rw [if_neg c7] at H
              exact absurd H (by simp)
          · rw [if_neg c5] at H
            exact absurd H (by simp)
        · rw [if_neg c4] at H
          exact absurd H (by simp)
      · rw [if_neg c3] at H
        have c3b0 : decide (x8_1 < ji2) = false := decide_eq_false c3
        clear c3
        obtain rfl := Option.some.inj H
        go_wp2
        go_ret
        exact ⟨by first | rfl | (simp [errW_none, errW_some] <;> rfl) | (simp only [← hji2]; first | rfl | (simp [errW_none, errW_some] <;> rfl)) | (simp [*, errW_none, errW_some] <;> rfl), by repeat (first | (with_reducible first | exact HB.out | apply below_alloc | apply pw_below_drewN | apply below_drew1) | exact HB.out)⟩

/-! ### bits_Mul64: function 56 -/
def bits_Mul64.f (a0 : Int) (a1 : Int) : Option (Int × Int) := some (IntKind.u64.wrap ((IntKind.u64.wrap ((IntKind.u64.wrap ((a0 / 4294967296) * (a1 / 4294967296))) + ((IntKind.u64.wrap ((IntKind.u64.wrap ((a0 / 4294967296) * (Go.bits .and .u64 a1 4294967295))) + ((IntKind.u64.wrap ((Go.bits .and .u64 a0 4294967295) * (Go.bits .and .u64 a1 4294967295))) / 4294967296))) / 4294967296))) + ((IntKind.u64.wrap ((Go.bits .and .u64 (IntKind.u64.wrap ((IntKind.u64.wrap ((a0 / 4294967296) * (Go.bits .and .u64 a1 4294967295))) + ((IntKind.u64.wrap ((Go.bits .and .u64 a0 4294967295) * (Go.bits .and .u64 a1 4294967295))) / 4294967296))) 4294967295) + (IntKind.u64.wrap ((Go.bits .and .u64 a0 4294967295) * (a1 / 4294967296))))) / 4294967296)), IntKind.u64.wrap (a0 * a1))
set_option maxHeartbeats 8000000 in
set_option maxRecDepth 100000 in
theorem bits_Mul64.calls (a0 : Int) (a1 : Int) (r1 : Int) (r2 : Int) (w : World) (h : bits_Mul64.f a0 a1 = some (r1, r2)) :
    Calls Try.prog 56 #[.int .u64 a0, .int .u64 a1] w fun e w' => e = .returned (.tuple #[.int .u64 r1, .int .u64 r2]) ∧ Drawn0 w w' := by
  have H : (some (IntKind.u64.wrap ((IntKind.u64.wrap ((IntKind.u64.wrap ((a0 / 4294967296) * (a1 / 4294967296))) + ((IntKind.u64.wrap ((IntKind.u64.wrap ((a0 / 4294967296) * (Go.bits .and .u64 a1 4294967295))) + ((IntKind.u64.wrap ((Go.bits .and .u64 a0 4294967295) * (Go.bits .and .u64 a1 4294967295))) / 4294967296))) / 4294967296))) + ((IntKind.u64.wrap ((Go.bits .and .u64 (IntKind.u64.wrap ((IntKind.u64.wrap ((a0 / 4294967296) * (Go.bits .and .u64 a1 4294967295))) + ((IntKind.u64.wrap ((Go.bits .and .u64 a0 4294967295) * (Go.bits .and .u64 a1 4294967295))) / 4294967296))) 4294967295) + (IntKind.u64.wrap ((Go.bits .and .u64 a0 4294967295) * (a1 / 4294967296))))) / 4294967296)), IntKind.u64.wrap (a0 * a1))) = some (r1, r2) := h
  clear h
  simp only [Option.some.injEq, Prod.mk.injEq] at H
  obtain ⟨rfl, rfl⟩ := H
  go_enter Try.func56, Try.ntmps56
  go_wp2
  go_ret2
  exact ⟨by first | rfl | (simp; done) | (simp [*]; done), by repeat (first | exact Drawn0.refl _ | apply Drawn0.step)⟩

/-! ### words_gather: function 66 -/
def words_gather.l0 : Nat → Int → List Int → Int → Int → Option (Int)
  | 0, _, _, _, _ => none
  | k + 1, x3, x6, x7, x8 => if x8 < x7 then (if 0 ≤ x8 then (if x8 < (x6.length : Int) then (words_gather.l0 k (Go.bits .or .u8 x3 (rd x6 x8)) x6 x7 (wrap64 (x8 + 1))) else (none)) else (none)) else (some x3)
def words_gather.f (k : Nat) (l0 : List Int) : Option (Int) := words_gather.l0 k 0 l0 (l0.length : Int) 0
theorem words_gather.mono_l : ∀ k, (∀ y0 y1 y2 y3, LeO (words_gather.l0 k y0 y1 y2 y3) (words_gather.l0 (k + 1) y0 y1 y2 y3))
  | 0 => fun _ _ _ _ r h => by simp [words_gather.l0] at h
  | k + 1 => by
    have ih0 := words_gather.mono_l k
    · intro y0 y1 y2 y3
      unfold words_gather.l0
      repeat' first
      | (with_reducible exact ih0 _ _ _ _)
      | (with_reducible exact LeO.refl _)
      | (with_reducible exact LeO.none _)
      | (with_reducible refine LeO.ite ?_ ?_)
      | (with_reducible refine LeO.bind ?_ (fun _ => ?_))
      | exact ih0 _ _ _ _
      | exact LeO.none _
      | refine LeO.ite ?_ ?_
      | refine LeO.bind ?_ (fun _ => ?_)
theorem words_gather.mono : ∀ a0 k, LeO (words_gather.f k a0) (words_gather.f (k + 1) a0) := by
  intro a0 k
  have ih0 := words_gather.mono_l k
  unfold words_gather.f
  repeat' first
      | (with_reducible exact ih0 _ _ _ _)
      | (with_reducible exact LeO.refl _)
      | (with_reducible exact LeO.none _)
      | (with_reducible refine LeO.ite ?_ ?_)
      | (with_reducible refine LeO.bind ?_ (fun _ => ?_))
      | exact ih0 _ _ _ _
      | exact LeO.none _
      | refine LeO.ite ?_ ?_
      | refine LeO.bind ?_ (fun _ => ?_)
set_option maxHeartbeats 8000000 in
set_option maxRecDepth 100000 in
theorem words_gather.calls (k : Nat) (A0 : Option Addr) (c0 : Nat) (l0 : List Int) (r : Int) (w : World) (hr0 : Kd.C (Kd.int .u8) w A0 l0.length l0) (hc0 : l0.length ≤ c0) (h : words_gather.f k l0 = some r) :
    Calls Try.prog 66 #[.slice A0 l0.length c0] w fun e w' => e = .returned (.int .u8 r) ∧ Drawn0 w w' := by
  have HR0 := Aside0.mk hr0
  have HC0 := Aside0.mk hc0
  clear hr0 hc0
  have H : (words_gather.l0 k 0 l0 (l0.length : Int) 0) = some r := h
  clear h
  have H' := Aside0.mk H
  clear H
  go_enter Try.func66, Try.ntmps66
  go_wp2
  go_loopg [3, 8] k (fun kq v3 v8 w' => ∃ (x3_1 : Int) (x8_1 : Int), v3 = .int .u8 x3_1 ∧ v8 = .int .i64 x8_1 ∧ Aside0 (words_gather.l0 kq x3_1 l0 (l0.length : Int) x8_1 = some r) ∧ Aside0 (kq ≤ k) ∧ Drawn0 w w')
  case atStart => exact ⟨(0), (0), (by first | rfl | (simp; done) | (simp [*]; done)), (by first | rfl | (simp; done) | (simp [*]; done)), H', ⟨Nat.le_refl _⟩, by repeat (first | exact Drawn0.refl _ | apply Drawn0.step)⟩
  case round =>
    clear H'
    obtain ⟨x3_1, x8_1, rfl, rfl, HA, HK1, ⟨m1, rfl⟩⟩ := hrel
    cases gk with
    | zero => exact absurd HA.out (by simp [words_gather.l0])
    | succ k1 =>
      have H := HA.out
      clear HA
      simp only [words_gather.l0] at H
      by_cases c2 : x8_1 < (l0.length : Int)
      · rw [if_pos c2] at H
        have c2b0 : decide (x8_1 < (l0.length : Int)) = true := decide_eq_true c2
        clear c2
        by_cases c3 : 0 ≤ x8_1
        · rw [if_pos c3] at H
          have c3b0 : decide (0 ≤ x8_1) = true := decide_eq_true c3
          clear c3
          by_cases c4 : x8_1 < (l0.length : Int)
          · rw [if_pos c4] at H
            have c4b0 : decide (x8_1 < (l0.length : Int)) = true := decide_eq_true c4
            clear c4
            have H' := Aside0.mk H
            clear H
            have p106 : 0 ≤ (x8_1 : Int) := of_decide_eq_true (by first | (with_reducible assumption) | assumption)
            have q106 : x8_1 < (l0.length : Int) := of_decide_eq_true (by first | (with_reducible assumption) | assumption)
            obtain ⟨ad106, e106, hx106_0⟩ := Kd.at_int HR0.out x8_1 p106 q106
            cases e106
            replace p106 := eq_true p106
            replace q106 := eq_true q106
            go_wp2
            go_roundg k1
            case measure => have := HK1.out; omega
            case rel => exact ⟨(Go.bits .or .u8 x3_1 (rd l0 x8_1)), (wrap64 (x8_1 + 1)), (by first | rfl | (simp; done) | (simp [*]; done)), (by first | rfl | (simp; done) | (simp [*]; done)), H', ⟨by have := HK1.out; omega⟩, by repeat (first | exact Drawn0.refl _ | apply Drawn0.step)⟩
          · rw [if_neg c4] at H
            exact absurd H (by simp)
        · rw [if_neg c3] at H
          exact absurd H (by simp)
      · rw [if_neg c2] at H
        have c2b0 : decide (x8_1 < (l0.length : Int)) = false := decide_eq_false c2
        clear c2
        obtain rfl := Option.some.inj H
        go_wp2
        go_ret
        exact ⟨by first | rfl | (simp; done) | (simp [*]; done), by repeat (first | exact Drawn0.refl _ | apply Drawn0.step)⟩

/-! ### words_Zero: function 62 -/
def words_Zero.f (k : Nat) (l0 : List Int) : Option (Bool) := (words_gather.f k l0).bind fun t107 => (some (t107 == 0))
theorem words_Zero.mono : ∀ a0 k, LeO (words_Zero.f k a0) (words_Zero.f (k + 1) a0) := by
  intro a0 k
  unfold words_Zero.f
  repeat' first
      | (with_reducible exact words_gather.mono _ _)
      | (with_reducible exact LeO.refl _)
      | (with_reducible exact LeO.none _)
      | (with_reducible refine LeO.ite ?_ ?_)
      | (with_reducible refine LeO.bind ?_ (fun _ => ?_))
      | exact words_gather.mono _ _
      | exact LeO.none _
      | refine LeO.ite ?_ ?_
      | refine LeO.bind ?_ (fun _ => ?_)
set_option maxHeartbeats 8000000 in
set_option maxRecDepth 100000 in
theorem words_Zero.calls (k : Nat) (A0 : Option Addr) (c0 : Nat) (l0 : List Int) (r : Bool) (w : World) (hr0 : Kd.C (Kd.int .u8) w A0 l0.length l0) (hc0 : l0.length ≤ c0) (h : words_Zero.f k l0 = some r) :
    Calls Try.prog 62 #[.slice A0 l0.length c0] w fun e w' => e = .returned (.bool r) ∧ Drawn0 w w' := by
  have HR0 := Aside0.mk hr0
  have HC0 := Aside0.mk hc0
  clear hr0 hc0
  have H : ((words_gather.f k l0).bind fun t107 => (some (t107 == 0))) = some r := h
  clear h
  replace H := Option.bind_eq_some_iff.mp H
  obtain ⟨t107, A20, H⟩ := H
  replace H : (some (t107 == 0)) = some r := H
  have A2 := Aside0.mk A20
  clear A20
  obtain rfl := Option.some.inj H
  go_enter Try.func62, Try.ntmps62
  go_wp2_with (first | ((with_reducible refine gate_callee (f := 66) rfl ?_); refine goesL_ (some 4) rfl rfl Try.func66 (by kernel_rfl) rfl #[.slice A0 l0.length c0] rfl (by (try simp only [List.map_toArray, List.map_cons, List.map_nil]); first | done | rfl | (simp only [List.length_drop, List.length_take]; rfl)) ?_; (with_reducible refine (words_gather.calls k _ _ l0 t107 _ ?side1 ?side2 A2.out).mono ?_); (case side1 => repeat (first | exact HR0.out | (with_reducible refine Kd.C_alloc ?_ _) | (with_reducible refine Kd.C_drewN ?_ _) | (with_reducible refine Kd.C_drew ?_))); (case side2 => exact HC0.out); rintro e w' ⟨rfl, ⟨nd, rfl⟩⟩; refine ⟨_, rfl, ?_⟩))
  go_ret
  exact ⟨by first | rfl | (simp; done) | (simp [*]; done), by repeat (first | exact Drawn0.refl _ | apply Drawn0.step)⟩

/-! ### redanref05_carry: function 64 -/
mutual
def redanref05_carry.l0 : Nat → List Int → List Int → Int → Int → Option (List Int)
  | 0, _, _, _, _ => none
  | k + 1, x0, x3, x4, x5 => if x5 < (x0.length : Int) then (redanref05_carry.j1 k x0 x3 x4 x5 true) else (redanref05_carry.j1 k x0 x3 x4 x5 (decide (x4 > 0)))
def redanref05_carry.j1 : Nat → List Int → List Int → Int → Int → Bool → Option (List Int)
  | 0, _, _, _, _, _ => none
  | k + 1, x0, x3, x4, x5, x13 => if x13 = true then (if x5 < (x0.length : Int) then (if 0 ≤ x5 then (if x3.length < 17592186044416 then (redanref05_carry.l0 k x0 (x3 ++ [Int.tmod (wrap64 (x4 + (rd x0 x5))) 256]) (wrap64 (Int.tdiv (wrap64 (x4 + (rd x0 x5))) 256)) (wrap64 (x5 + 1))) else (none)) else (none)) else (if x3.length < 17592186044416 then (redanref05_carry.l0 k x0 (x3 ++ [Int.tmod x4 256]) (wrap64 (Int.tdiv x4 256)) (wrap64 (x5 + 1))) else (none))) else (some x3)
end
def redanref05_carry.f (k : Nat) (l0 : List Int) : Option (List Int) := redanref05_carry.l0 k l0 ([] : List Int) 0 0
theorem redanref05_carry.mono_l : ∀ k, (∀ y0 y1 y2 y3, LeO (redanref05_carry.l0 k y0 y1 y2 y3) (redanref05_carry.l0 (k + 1) y0 y1 y2 y3)) ∧ (∀ y0 y1 y2 y3 y4, LeO (redanref05_carry.j1 k y0 y1 y2 y3 y4) (redanref05_carry.j1 (k + 1) y0 y1 y2 y3 y4))
  | 0 => ⟨fun _ _ _ _ r h => by simp [redanref05_carry.l0] at h, fun _ _ _ _ _ r h => by simp [redanref05_carry.j1] at h⟩
  | k + 1 => by
    obtain ⟨ih0, ih1⟩ := redanref05_carry.mono_l k
    refine ⟨?_, ?_⟩
    · intro y0 y1 y2 y3
      unfold redanref05_carry.l0
      repeat' first
      | (with_reducible exact ih0 _ _ _ _)
      | (with_reducible exact ih1 _ _ _ _ _)
      | (with_reducible exact LeO.refl _)
      | (with_reducible exact LeO.none _)
      | (with_reducible refine LeO.ite ?_ ?_)
      | (with_reducible refine LeO.bind ?_ (fun _ => ?_))
      | exact ih0 _ _ _ _
      | exact ih1 _ _ _ _ _
      | exact LeO.none _
      | refine LeO.ite ?_ ?_
      | refine LeO.bind ?_ (fun _ => ?_)
    · intro y0 y1 y2 y3 y4
      unfold redanref05_carry.j1
      repeat' first
      | (with_reducible exact ih0 _ _ _ _)
      | (with_reducible exact ih1 _ _ _ _ _)
      | (with_reducible exact LeO.refl _)
      | (with_reducible exact LeO.none _)
      | (with_reducible refine LeO.ite ?_ ?_)
      | (with_reducible refine LeO.bind ?_ (fun _ => ?_))
      | exact ih0 _ _ _ _
      | exact ih1 _ _ _ _ _
      | exact LeO.none _
      | refine LeO.ite ?_ ?_
      | refine LeO.bind ?_ (fun _ => ?_)
theorem redanref05_carry.mono : ∀ a0 k, LeO (redanref05_carry.f k a0) (redanref05_carry.f (k + 1) a0) := by
  intro a0 k
  obtain ⟨ih0, ih1⟩ := redanref05_carry.mono_l k
  unfold redanref05_carry.f
  repeat' first
      | (with_reducible exact ih0 _ _ _ _)
      | (with_reducible exact ih1 _ _ _ _ _)
      | (with_reducible exact LeO.refl _)
      | (with_reducible exact LeO.none _)
      | (with_reducible refine LeO.ite ?_ ?_)
      | (with_reducible refine LeO.bind ?_ (fun _ => ?_))
      | exact ih0 _ _ _ _
      | exact ih1 _ _ _ _ _
      | exact LeO.none _
      | refine LeO.ite ?_ ?_
      | refine LeO.bind ?_ (fun _ => ?_)
set_option maxHeartbeats 8000000 in
set_option maxRecDepth 100000 in
theorem redanref05_carry.calls (k : Nat) (A0 : Option Addr) (c0 : Nat) (l0 : List Int) (r : List Int) (w : World) (hr0 : Kd.C (Kd.int .i64) w A0 l0.length l0) (hc0 : l0.length ≤ c0) (h : redanref05_carry.f k l0 = some r) :
    Calls Try.prog 64 #[.slice A0 l0.length c0] w fun e w' => ∃ v0_ : Value, e = .returned (v0_) ∧ Kd.R (Kd.int .i64) 3 w' w.heap.size (fun _ => True) v0_ r ∧ Below w.heap.size w w' := by
  have HR0 := Aside0.mk hr0
  have HC0 := Aside0.mk hc0
  clear hr0 hc0
  have HB := Aside0.mk (Below.refl w.heap.size w)
  have H : (redanref05_carry.l0 k l0 ([] : List Int) 0 0) = some r := h
  clear h
  have H' := Aside0.mk H
  clear H
  go_enter Try.func64, Try.ntmps64
  go_wp2
  go_loopg [3, 4, 5] k (fun kq v3 v4 v5 w' => ∃ (x3_1 : List Int) (x4_1 : Int) (x5_1 : Int), v4 = .int .i64 x4_1 ∧ v5 = .int .i64 x5_1 ∧ Aside0 (redanref05_carry.l0 kq l0 x3_1 x4_1 x5_1 = some r) ∧ Aside0 (kq ≤ k) ∧ Aside0 (Kd.R (Kd.int .i64) 3 w' w.heap.size (fun _ => True) v3 x3_1) ∧ Aside0 (Below w.heap.size w w'))
  case atStart => exact ⟨(([] : List Int)), (0), (0), (by first | rfl | (simp; done) | (simp [*]; done)), (by first | rfl | (simp; done) | (simp [*]; done)), H', ⟨Nat.le_refl _⟩, ⟨by first | exact Kd.R_nil _ _ _ _ _ | exact Kd.N_nil _ _ _ _ _ | exact Kd.V_nil _ _ _ _ _ | exact Kd.Q_nil _ _ _ _ _ | exact Kd.S_nil _ _ _ _ _⟩, ⟨by repeat (first | (with_reducible first | exact HB.out | apply below_alloc | apply pw_below_drewN | apply below_drew1) | exact HB.out)⟩⟩
  case round =>
    clear H'
    obtain ⟨x3_1, x4_1, x5_1, rfl, rfl, HA, HK1, HO_3, HB⟩ := hrel
    cases gk with
    | zero => exact absurd HA.out (by simp [redanref05_carry.l0])
    | succ k1 =>
      have H := HA.out
      clear HA
      simp only [redanref05_carry.l0] at H
      have HC2 := Aside0.mk H
      clear H
      go_upto_region 4 with (fail)
      go_cut [13] (fun v13 wc => ∃ (kq : Nat) (x13_1 : Bool), v13 = .bool x13_1 ∧ Aside0 (redanref05_carry.j1 kq l0 x3_1 x4_1 x5_1 x13_1 = some r) ∧ Aside0 (kq ≤ k1) ∧ Aside0 (Kd.R (Kd.int .i64) 3 wc w.heap.size (fun _ => True) u3 x3_1) ∧ Aside0 (Below w.heap.size w wc))
      case first =>
        have H := HC2.out
        clear HC2
        by_cases c3 : x5_1 < (l0.length : Int)
        · rw [if_pos c3] at H
          have c3b0 : decide (x5_1 < (l0.length : Int)) = true := decide_eq_true c3
          clear c3
          (first | rw [c3b0] | (simp only [i64_w, i32_w]; rw [c3b0]) | skip)
          have H' := Aside0.mk H
          clear H
          go_wp2
          go_meet
          case rel => exact ⟨_, (true), (by first | rfl | (simp; done) | (simp [*]; done)), H', ⟨by have := HK1.out; first | omega | exact Nat.le_refl _⟩, ⟨by (with_reducible repeat (first | apply Kd.R_alloc | apply Kd.R_drewN | apply Kd.R_drew)); exact HO_3.out⟩, ⟨by repeat (first | (with_reducible first | exact HB.out | apply below_alloc | apply pw_below_drewN | apply below_drew1) | exact HB.out)⟩⟩
        · rw [if_neg c3] at H
          have c3b0 : decide (x5_1 < (l0.length : Int)) = false := decide_eq_false c3
          clear c3
          (first | rw [c3b0] | (simp only [i64_w, i32_w]; rw [c3b0]) | skip)
          have H' := Aside0.mk H
          clear H
          go_wp2
          go_meet
          case rel => exact ⟨_, (decide (x4_1 > 0)), (by first | rfl | (simp; done) | (simp [*]; done)), H', ⟨by have := HK1.out; first | omega | exact Nat.le_refl _⟩, ⟨by (with_reducible repeat (first | apply Kd.R_alloc | apply Kd.R_drewN | apply Kd.R_drew)); exact HO_3.out⟩, ⟨by repeat (first | (with_reducible first | exact HB.out | apply below_alloc | apply pw_below_drewN | apply below_drew1) | exact HB.out)⟩⟩
      case rest =>
        clear HC2
        try clear p2
        try clear c3
        try clear c3b0
        obtain ⟨kq, x13_1, rfl, HA, HJ1, HO_3, HB⟩ := hcut
        cases kq with
        | zero => exact absurd HA.out (by simp [redanref05_carry.j1])
        | succ kj1 =>
          have H := HA.out
          clear HA
          simp only [redanref05_carry.j1] at H
          by_cases c4 : x13_1 = true
          · subst c4
            have H1 : (if x5_1 < (l0.length : Int) then (if 0 ≤ x5_1 then (if x3_1.length < 17592186044416 then (redanref05_carry.l0 kj1 l0 (x3_1 ++ [Int.tmod (wrap64 (x4_1 + (rd l0 x5_1))) 256]) (wrap64 (Int.tdiv (wrap64 (x4_1 + (rd l0 x5_1))) 256)) (wrap64 (x5_1 + 1))) else (none)) else (none)) else (if x3_1.length < 17592186044416 then (redanref05_carry.l0 kj1 l0 (x3_1 ++ [Int.tmod x4_1 256]) (wrap64 (Int.tdiv x4_1 256)) (wrap64 (x5_1 + 1))) else (none))) = some r := by rw [if_pos rfl] at H; exact H
            clear H
            have H := H1
            clear H1
            by_cases c5 : x5_1 < (l0.length : Int)
            · rw [if_pos c5] at H
              have c5b0 : decide (x5_1 < (l0.length : Int)) = true := decide_eq_true c5
              clear c5
              by_cases c6 : 0 ≤ x5_1
              · rw [if_pos c6] at H
                have c6b0 : decide (0 ≤ x5_1) = true := decide_eq_true c6
                clear c6
                by_cases c7 : x3_1.length < 17592186044416
                · rw [if_pos c7] at H
                  have LMc7 := Aside0.mk c7
                  clear c7
                  obtain ⟨y117, hy117⟩ : ∃ y_ : List Int, y_ = (x3_1 ++ [Int.tmod (wrap64 (x4_1 + (rd l0 x5_1))) 256]) := ⟨_, rfl⟩
                  replace H : (redanref05_carry.l0 kj1 l0 y117 (wrap64 (Int.tdiv (wrap64 (x4_1 + (rd l0 x5_1))) 256)) (wrap64 (x5_1 + 1))) = some r := by first | (rw [hy117]; with_reducible exact H) | (have H2_ := (Option.bind_some _ _).symm.trans H; rw [hy117]; with_reducible exact H2_) | (have H2_ := (Option.bind_some _ _).symm.trans H; with_reducible exact H2_) | with_reducible exact H | (rw [hy117]; exact H) | exact H
                  have Ny117 := Aside0.mk hy117
                  clear hy117
                  have H' := Aside0.mk H
                  clear H
                  have p116 : 0 ≤ (x5_1 : Int) := of_decide_eq_true (by first | (with_reducible assumption) | assumption)
                  have q116 : x5_1 < (l0.length : Int) := of_decide_eq_true (by first | (with_reducible assumption) | assumption)
                  obtain ⟨ad116, e116, hx116_0⟩ := Kd.at_int HR0.out x5_1 p116 q116
                  cases e116
                  replace hx116_0 := (HB.out.cell (World.block_lt_of_cell? w _ hx116_0)).trans hx116_0
                  replace p116 := eq_true p116
                  replace q116 := eq_true q116
                  go_wp2_with (first | ((with_reducible refine gate_builtin (b := .append) (xs := #[.tmp 26, .tmp 29]) rfl ?_); at_builtin; refine Kd.R_append (Kd.int .i64) (w0 := w) w.heap.size rfl (.tmp 26) (.tmp 29) 29 3 (.int .i64 0) 8 rfl Try.underlying29 info3 rfl (by decide) (by omega) u3 x3_1 (Int.tmod (wrap64 (x4_1 + (rd l0 x5_1))) 256) [.int .i64 (Int.tmod (wrap64 (x4_1 + (rd l0 x5_1))) 256)] (fun _ => True) (fun _ => False) rfl rfl ?aP (fun _ hk => hk.elim) ?aF ?aO ?aB ?aS ?aL ?_; (case aP => exact rfl); (case aB => exact (by repeat (first | (with_reducible first | exact HB.out | apply below_alloc | apply pw_below_drewN | apply below_drew1) | exact HB.out))); (case aF => exact (fun _ _ => trivial)); (case aO => exact (by (with_reducible repeat (first | apply Kd.R_alloc | apply Kd.R_drewN | apply Kd.R_drew)); exact HO_3.out)); (case aS => exact (below_size (by repeat (first | (with_reducible first | exact HB.out | apply below_alloc | apply pw_below_drewN | apply below_drew1) | exact HB.out)))); (case aL => have := LMc7.out; omega); intro v118 w8 ho hb hg hat; rw [← Ny117.out] at ho; have n0_ := Aside0.mk (hb); have n1_ := Aside0.mk (ho); clear HB; clear HO_3; have HB := n0_; have HO119 := n1_; clear n0_ n1_; clear ho hb hg hat))
                  go_roundg kj1
                  case measure => have := HK1.out; have := HJ1.out; omega
                  case rel => exact ⟨(y117), (wrap64 (Int.tdiv (wrap64 (x4_1 + (rd l0 x5_1))) 256)), (wrap64 (x5_1 + 1)), (by first | rfl | (simp; done) | (simp [*]; done)), (by first | rfl | (simp; done) | (simp [*]; done)), H', ⟨by have := HK1.out; have := HJ1.out; omega⟩, ⟨by (with_reducible repeat (first | apply Kd.R_alloc | apply Kd.R_drewN | apply Kd.R_drew)); exact HO119.out⟩, ⟨by repeat (first | (with_reducible first | exact HB.out | apply below_alloc | apply pw_below_drewN | apply below_drew1) | exact HB.out)⟩⟩
                · rw [if_neg c7] at H
                  exact absurd H (by simp)
              · rw [if_neg c6] at H
                exact absurd H (by simp)
            · rw [if_neg c5] at H
              have c5b0 : decide (x5_1 < (l0.length : Int)) = false := decide_eq_false c5
              clear c5
              by_cases c9 : x3_1.length < 17592186044416
              · rw [if_pos c9] at H
                have LMc9 := Aside0.mk c9
                clear c9
                obtain ⟨y120, hy120⟩ : ∃ y_ : List Int, y_ = (x3_1 ++ [Int.tmod x4_1 256]) := ⟨_, rfl⟩
                replace H : (redanref05_carry.l0 kj1 l0 y120 (wrap64 (Int.tdiv x4_1 256)) (wrap64 (x5_1 + 1))) = some r := by first | (rw [hy120]; with_reducible exact H) | (have H2_ := (Option.bind_some _ _).symm.trans H; rw [hy120]; with_reducible exact H2_) | (have H2_ := (Option.bind_some _ _).symm.trans H; with_reducible exact H2_) | with_reducible exact H | (rw [hy120]; exact H) | exact H
                have Ny120 := Aside0.mk hy120
                clear hy120
                have H' := Aside0.mk H
                clear H
                go_wp2_with (first | ((with_reducible refine gate_builtin (b := .append) (xs := #[.tmp 26, .tmp 29]) rfl ?_); at_builtin; refine Kd.R_append (Kd.int .i64) (w0 := w) w.heap.size rfl (.tmp 26) (.tmp 29) 29 3 (.int .i64 0) 8 rfl Try.underlying29 info3 rfl (by decide) (by omega) u3 x3_1 (Int.tmod x4_1 256) [.int .i64 (Int.tmod x4_1 256)] (fun _ => True) (fun _ => False) rfl rfl ?aP (fun _ hk => hk.elim) ?aF ?aO ?aB ?aS ?aL ?_; (case aP => exact rfl); (case aB => exact (by repeat (first | (with_reducible first | exact HB.out | apply below_alloc | apply pw_below_drewN | apply below_drew1) | exact HB.out))); (case aF => exact (fun _ _ => trivial)); (case aO => exact (by (with_reducible repeat (first | apply Kd.R_alloc | apply Kd.R_drewN | apply Kd.R_drew)); exact HO_3.out)); (case aS => exact (below_size (by repeat (first | (with_reducible first | exact HB.out | apply below_alloc | apply pw_below_drewN | apply below_drew1) | exact HB.out)))); (case aL => have := LMc9.out; omega); intro v121 w10 ho hb hg hat; rw [← Ny120.out] at ho; have n0_ := Aside0.mk (hb); have n1_ := Aside0.mk (ho); clear HB; clear HO_3; have HB := n0_; have HO122 := n1_; clear n0_ n1_; clear ho hb hg hat))
                go_roundg kj1
                case measure => have := HK1.out; have := HJ1.out; omega
                case rel => exact ⟨(y120), (wrap64 (Int.tdiv x4_1 256)), (wrap64 (x5_1 + 1)), (by first | rfl | (simp; done) | (simp [*]; done)), (by first | rfl | (simp; done) | (simp [*]; done)), H', ⟨by have := HK1.out; have := HJ1.out; omega⟩, ⟨by (with_reducible repeat (first | apply Kd.R_alloc | apply Kd.R_drewN | apply Kd.R_drew)); exact HO122.out⟩, ⟨by repeat (first | (with_reducible first | exact HB.out | apply below_alloc | apply pw_below_drewN | apply below_drew1) | exact HB.out)⟩⟩
              · rw [if_neg c9] at H
                exact absurd H (by simp)
          · replace c4 := Bool.eq_false_iff.mpr c4
            subst c4
            have H1 : (some x3_1) = some r := by rw [if_neg (show ¬ (false = true) by decide)] at H; exact H
            clear H
            have H := H1
            clear H1
            obtain rfl := Option.some.inj H
            go_wp2
            go_ret
            exact ⟨_, by first | rfl | (simp [errW_none, errW_some] <;> rfl) | (simp [*, errW_none, errW_some] <;> rfl), by (with_reducible repeat (first | apply Kd.R_alloc | apply Kd.R_drewN | apply Kd.R_drew)); exact HO_3.out, by repeat (first | (with_reducible first | exact HB.out | apply below_alloc | apply pw_below_drewN | apply below_drew1) | exact HB.out)⟩

/-! ### redanref05_low: function 65 -/
def redanref05_low.l0 : Nat → List Int → Int → Option (Bool)
  | 0, _, _ => none
  | k + 1, x0, x3 => if x3 > 0 then (if 0 ≤ x3 then (if x3 < (x0.length : Int) then (if (rd x0 x3) = 255 then (redanref05_low.l0 k x0 (wrap64 (x3 - 1))) else (some true)) else (none)) else (none)) else (if 0 < (x0.length : Int) then (some (decide ((rd x0 0) < 237))) else (none))
def redanref05_low.f (k : Nat) (l0 : List Int) : Option (Bool) := if 31 < (l0.length : Int) then (if (rd l0 31) = 127 then (redanref05_low.l0 k l0 30) else (some (decide ((rd l0 31) < 127)))) else (none)
theorem redanref05_low.mono_l : ∀ k, (∀ y0 y1, LeO (redanref05_low.l0 k y0 y1) (redanref05_low.l0 (k + 1) y0 y1))
  | 0 => fun _ _ r h => by simp [redanref05_low.l0] at h
  | k + 1 => by
    have ih0 := redanref05_low.mono_l k
    · intro y0 y1
      unfold redanref05_low.l0
      repeat' first
      | (with_reducible exact ih0 _ _)
      | (with_reducible exact LeO.refl _)
      | (with_reducible exact LeO.none _)
      | (with_reducible refine LeO.ite ?_ ?_)
      | (with_reducible refine LeO.bind ?_ (fun _ => ?_))
      | exact ih0 _ _
      | exact LeO.none _
      | refine LeO.ite ?_ ?_
      | refine LeO.bind ?_ (fun _ => ?_)
theorem redanref05_low.mono : ∀ a0 k, LeO (redanref05_low.f k a0) (redanref05_low.f (k + 1) a0) := by
  intro a0 k
  have ih0 := redanref05_low.mono_l k
  unfold redanref05_low.f
  repeat' first
      | (with_reducible exact ih0 _ _)
      | (with_reducible exact LeO.refl _)
      | (with_reducible exact LeO.none _)
      | (with_reducible refine LeO.ite ?_ ?_)
      | (with_reducible refine LeO.bind ?_ (fun _ => ?_))
      | exact ih0 _ _
      | exact LeO.none _
      | refine LeO.ite ?_ ?_
      | refine LeO.bind ?_ (fun _ => ?_)
set_option maxHeartbeats 8000000 in
set_option maxRecDepth 100000 in
theorem redanref05_low.calls (k : Nat) (A0 : Option Addr) (c0 : Nat) (l0 : List Int) (r : Bool) (w : World) (hr0 : Kd.C (Kd.int .i64) w A0 l0.length l0) (hc0 : l0.length ≤ c0) (h : redanref05_low.f k l0 = some r) :
    Calls Try.prog 65 #[.slice A0 l0.length c0] w fun e w' => e = .returned (.bool r) ∧ Drawn0 w w' := by
  have HR0 := Aside0.mk hr0
  have HC0 := Aside0.mk hc0
  clear hr0 hc0
  have H : (if 31 < (l0.length : Int) then (if (rd l0 31) = 127 then (redanref05_low.l0 k l0 30) else (some (decide ((rd l0 31) < 127)))) else (none)) = some r := h
  clear h
  by_cases c2 : 31 < (l0.length : Int)
  · rw [if_pos c2] at H
    have c2b0 : decide (31 < (l0.length : Int)) = true := decide_eq_true c2
    have c2b1 : decide (31 < l0.length) = true := decide_eq_true (by omega)
    clear c2
    by_cases c3 : (rd l0 31) = 127
    · rw [if_pos c3] at H
      have c3b0 : ((rd l0 31) == 127) = true := beq_iff_eq.mpr c3
      have c3b1 : ((rd l0 31) != 127) = false := bne_eq_false_iff_eq.mpr c3
      clear c3
      have H' := Aside0.mk H
      clear H
      have p123 : 0 ≤ (31 : Int) := (by omega)
      have q123 : 31 < (l0.length : Int) := of_decide_eq_true (by first | (with_reducible assumption) | assumption)
      obtain ⟨ad123, e123, hx123_0⟩ := Kd.at_int HR0.out 31 p123 q123
      cases e123
      (try simp only [show (31 : Int).toNat = 31 from rfl, Nat.reduceMul, Nat.reduceEqDiff, Go.Addr.add, ↓reduceIte] at hx123_0)
      have qi123 : (31 < l0.length) = True := eq_true (by omega)
      (try rw [show ((31 : Int)).toNat = 31 from rfl] at hx123_0)
      replace p123 := eq_true p123
      replace q123 := eq_true q123
      go_enter Try.func65, Try.ntmps65
      go_wp2
      go_loopg [3] k (fun kq v3 w' => ∃ (x3_1 : Int), v3 = .int .i64 x3_1 ∧ Aside0 (redanref05_low.l0 kq l0 x3_1 = some r) ∧ Aside0 (kq ≤ k) ∧ Drawn0 w w')
      case atStart => exact ⟨(30), (by first | rfl | (simp; done) | (simp [*]; done)), H', ⟨Nat.le_refl _⟩, by repeat (first | exact Drawn0.refl _ | apply Drawn0.step)⟩
      case round =>
        clear H'
        try clear p1
        try clear q1
        try clear hx1
        try clear qi1
        try clear c2
        try clear c2b0
        try clear c2b1
        try clear p2
        try clear c3
        try clear c3b0
        try clear c3b1
        try clear hx123_0
        try clear p123
        try clear q123
        obtain ⟨x3_1, rfl, HA, HK1, ⟨m1, rfl⟩⟩ := hrel
        cases gk with
        | zero => exact absurd HA.out (by simp [redanref05_low.l0])
        | succ k1 =>
          have H := HA.out
          clear HA
          simp only [redanref05_low.l0] at H
          by_cases c4 : x3_1 > 0
          · rw [if_pos c4] at H
            have c4b0 : decide (0 < x3_1) = true := decide_eq_true c4
            clear c4
            by_cases c5 : 0 ≤ x3_1
            · rw [if_pos c5] at H
              have c5b0 : decide (0 ≤ x3_1) = true := decide_eq_true c5
              clear c5
              by_cases c6 : x3_1 < (l0.length : Int)
              · rw [if_pos c6] at H
                have c6b0 : decide (x3_1 < (l0.length : Int)) = true := decide_eq_true c6
                clear c6
                by_cases c7 : (rd l0 x3_1) = 255
                · rw [if_pos c7] at H
                  have c7b0 : ((rd l0 x3_1) == 255) = true := beq_iff_eq.mpr c7
                  have c7b1 : ((rd l0 x3_1) != 255) = false := bne_eq_false_iff_eq.mpr c7
                  clear c7
                  have H' := Aside0.mk H
                  clear H
                  have p125 : 0 ≤ (x3_1 : Int) := of_decide_eq_true (by first | (with_reducible assumption) | assumption)
                  have q125 : x3_1 < (l0.length : Int) := of_decide_eq_true (by first | (with_reducible assumption) | assumption)
                  obtain ⟨ad125, e125, hx125_0⟩ := Kd.at_int HR0.out x3_1 p125 q125
                  obtain rfl : ad123 = ad125 := (by injection e125)
                  replace p125 := eq_true p125
                  replace q125 := eq_true q125
                  go_wp2
                  go_roundg k1
                  case measure => have := HK1.out; omega
                  case rel => exact ⟨(wrap64 (x3_1 - 1)), (by first | rfl | (simp; done) | (simp [*]; done)), H', ⟨by have := HK1.out; omega⟩, by repeat (first | exact Drawn0.refl _ | apply Drawn0.step)⟩
                · rw [if_neg c7] at H
                  have c7b0 : ((rd l0 x3_1) == 255) = false := beq_eq_false_iff_ne.mpr c7
                  have c7b1 : ((rd l0 x3_1) != 255) = true := bne_iff_ne.mpr c7
                  obtain rfl := Option.some.inj H
                  have p125 : 0 ≤ (x3_1 : Int) := of_decide_eq_true (by first | (with_reducible assumption) | assumption)
                  have q125 : x3_1 < (l0.length : Int) := of_decide_eq_true (by first | (with_reducible assumption) | assumption)
                  obtain ⟨ad125, e125, hx125_0⟩ := Kd.at_int HR0.out x3_1 p125 q125
                  obtain rfl : ad123 = ad125 := (by injection e125)
                  replace p125 := eq_true p125
                  replace q125 := eq_true q125
                  go_wp2
                  go_ret
                  exact ⟨by first | rfl | (simp; done) | (simp [*]; done), by repeat (first | exact Drawn0.refl _ | apply Drawn0.step)⟩
              · rw [if_neg c6] at H
                exact absurd H (by simp)
            · rw [if_neg c5] at H
              exact absurd H (by simp)
          · rw [if_neg c4] at H
            have c4b0 : decide (0 < x3_1) = false := decide_eq_false c4
            clear c4
            by_cases c8 : 0 < (l0.length : Int)
            · rw [if_pos c8] at H
              have c8b0 : decide (0 < (l0.length : Int)) = true := decide_eq_true c8
              have c8b1 : decide (0 < l0.length) = true := decide_eq_true (by omega)
              clear c8
              obtain rfl := Option.some.inj H
              have p126 : 0 ≤ (0 : Int) := (by omega)
              have q126 : 0 < (l0.length : Int) := of_decide_eq_true (by first | (with_reducible assumption) | assumption)
              obtain ⟨ad126, e126, hx126_0⟩ := Kd.at_int HR0.out 0 p126 q126
              obtain rfl : ad123 = ad126 := (by injection e126)
              have qi126 : (0 < l0.length) = True := eq_true (by omega)
              (try rw [show ((0 : Int)).toNat = 0 from rfl] at hx126_0)
              (try rw [Addr.add_zero'] at hx126_0)
              replace p126 := eq_true p126
              replace q126 := eq_true q126
              go_wp2
              go_ret
              exact ⟨by first | rfl | (simp; done) | (simp [*]; done), by repeat (first | exact Drawn0.refl _ | apply Drawn0.step)⟩
            · rw [if_neg c8] at H
              exact absurd H (by simp)
    · rw [if_neg c3] at H
      have c3b0 : ((rd l0 31) == 127) = false := beq_eq_false_iff_ne.mpr c3
      have c3b1 : ((rd l0 31) != 127) = true := bne_iff_ne.mpr c3
      obtain rfl := Option.some.inj H
      have p123 : 0 ≤ (31 : Int) := (by omega)
      have q123 : 31 < (l0.length : Int) := of_decide_eq_true (by first | (with_reducible assumption) | assumption)
      obtain ⟨ad123, e123, hx123_0⟩ := Kd.at_int HR0.out 31 p123 q123
      cases e123
      (try simp only [show (31 : Int).toNat = 31 from rfl, Nat.reduceMul, Nat.reduceEqDiff, Go.Addr.add, ↓reduceIte] at hx123_0)
      have qi123 : (31 < l0.length) = True := eq_true (by omega)
      (try rw [show ((31 : Int)).toNat = 31 from rfl] at hx123_0)
      replace p123 := eq_true p123
      replace q123 := eq_true q123
      have p124 : 0 ≤ (31 : Int) := (by omega)
      have q124 : 31 < (l0.length : Int) := of_decide_eq_true (by first | (with_reducible assumption) | assumption)
      obtain ⟨ad124, e124, hx124_0⟩ := Kd.at_int HR0.out 31 p124 q124
      obtain rfl : ad123 = ad124 := (by injection e124)
      (try simp only [show (31 : Int).toNat = 31 from rfl, Nat.reduceMul, Nat.reduceEqDiff, Go.Addr.add, ↓reduceIte] at hx124_0)
      have qi124 : (31 < l0.length) = True := eq_true (by omega)
      (try rw [show ((31 : Int)).toNat = 31 from rfl] at hx124_0)
      replace p124 := eq_true p124
      replace q124 := eq_true q124
      go_enter Try.func65, Try.ntmps65
      go_wp2
      go_ret
      exact ⟨by first | rfl | (simp; done) | (simp [*]; done), by repeat (first | exact Drawn0.refl _ | apply Drawn0.step)⟩
  · rw [if_neg c2] at H
    exact absurd H (by simp)

/-! ### redanref05_Mod: function 51 -/
mutual
def redanref05_Mod.l0 : Nat → List Int → Option (List Int)
  | 0, _ => none
  | k + 1, x0 => redanref05_Mod.l1 k x0
def redanref05_Mod.l1 : Nat → List Int → Option (List Int)
  | 0, _ => none
  | k + 1, x0 => if (x0.length : Int) < 32 then (if x0.length < 17592186044416 then (redanref05_Mod.l1 k (x0 ++ [0])) else (none)) else (redanref05_Mod.l2 k x0 false 32)
def redanref05_Mod.l2 : Nat → List Int → Bool → Int → Option (List Int)
  | 0, _, _, _ => none
  | k + 1, x0, x3, x4 => if x4 < (x0.length : Int) then (if x3 = true then (redanref05_Mod.l2 k x0 true (wrap64 (x4 + 1))) else (if 0 ≤ x4 then (redanref05_Mod.l2 k x0 (decide ((rd x0 x4) > 0)) (wrap64 (x4 + 1))) else (none))) else (if x3 = true then (redanref05_Mod.j3 k x0 false) else (if 31 < (x0.length : Int) then (redanref05_Mod.j3 k x0 (decide ((rd x0 31) < 128))) else (none)))
def redanref05_Mod.j3 : Nat → List Int → Bool → Option (List Int)
  | 0, _, _ => none
  | k + 1, x0, x39 => if x39 = true then (if 32 ≤ (x0.length : Int) then ((some (x0.take (32 : Int).toNat : List Int)).bind fun y135 => ((redanref05_low.f k y135).bind fun t138 => (if t138 = true then (some y135) else (if 32 ≤ 35184372088832 then ((some (List.replicate 32 0 : List Int)).bind fun y139 => (if 0 < (y135.length : Int) then (if 0 < (y139.length : Int) then (some (y139.set (0 : Int).toNat (wrap64 ((rd y135 0) - 237)))) else (none)) else (none))) else (none))))) else (none)) else (if 0 ≤ (x0.length : Int) then (if ((x0.length : Int) : Int).toNat ≤ 35184372088832 then (redanref05_Mod.l3 k x0 (List.replicate ((x0.length : Int) : Int).toNat 0) 0) else (none)) else (none))
def redanref05_Mod.l3 : Nat → List Int → List Int → Int → Option (List Int)
  | 0, _, _, _ => none
  | k + 1, x0, x5, x6 => if x6 < 32 then (if 0 ≤ x6 then (if x6 < (x0.length : Int) then (if x6 < (x5.length : Int) then (redanref05_Mod.l3 k x0 (x5.set (x6 : Int).toNat (rd x0 x6)) (wrap64 (x6 + 1))) else (none)) else (none)) else (none)) else (if 31 < (x0.length : Int) then (if 31 < (x5.length : Int) then (redanref05_Mod.l4 k x0 (x5.set (31 : Int).toNat (Int.tmod (rd x0 31) 128)) 0) else (none)) else (none))
def redanref05_Mod.l4 : Nat → List Int → List Int → Int → Option (List Int)
  | 0, _, _, _ => none
  | k + 1, x0, x5, x7 => if (wrap64 (x7 + 31)) < (x0.length : Int) then (if 0 ≤ (wrap64 (x7 + 31)) then (if (wrap64 (x7 + 32)) < (x0.length : Int) then (if 0 ≤ (wrap64 (x7 + 32)) then (if 0 ≤ x7 then (if x7 < (x5.length : Int) then (redanref05_Mod.l4 k x0 (x5.set (x7 : Int).toNat (wrap64 ((rd x5 x7) + (wrap64 (19 * (wrap64 ((wrap64 (Int.tdiv (rd x0 (wrap64 (x7 + 31))) 128)) + (wrap64 ((Int.tmod (rd x0 (wrap64 (x7 + 32))) 128) * 2))))))))) (wrap64 (x7 + 1))) else (none)) else (none)) else (none)) else (if 0 ≤ x7 then (if x7 < (x5.length : Int) then (redanref05_Mod.l4 k x0 (x5.set (x7 : Int).toNat (wrap64 ((rd x5 x7) + (wrap64 (19 * (wrap64 (Int.tdiv (rd x0 (wrap64 (x7 + 31))) 128))))))) (wrap64 (x7 + 1))) else (none)) else (none))) else (none)) else ((redanref05_carry.f k x5).bind fun t157 => (redanref05_Mod.l0 k t157))
end
def redanref05_Mod.f (k : Nat) (l0 : List Int) : Option (List Int) := (redanref05_carry.f k l0).bind fun t127 => (redanref05_Mod.l0 k t127)
theorem redanref05_Mod.mono_l : ∀ k, (∀ y0, LeO (redanref05_Mod.l0 k y0) (redanref05_Mod.l0 (k + 1) y0)) ∧ (∀ y0, LeO (redanref05_Mod.l1 k y0) (redanref05_Mod.l1 (k + 1) y0)) ∧ (∀ y0 y1 y2, LeO (redanref05_Mod.l2 k y0 y1 y2) (redanref05_Mod.l2 (k + 1) y0 y1 y2)) ∧ (∀ y0 y1, LeO (redanref05_Mod.j3 k y0 y1) (redanref05_Mod.j3 (k + 1) y0 y1)) ∧ (∀ y0 y1 y2, LeO (redanref05_Mod.l3 k y0 y1 y2) (redanref05_Mod.l3 (k + 1) y0 y1 y2)) ∧ (∀ y0 y1 y2, LeO (redanref05_Mod.l4 k y0 y1 y2) (redanref05_Mod.l4 (k + 1) y0 y1 y2))
  | 0 => ⟨fun _ r h => by simp [redanref05_Mod.l0] at h, fun _ r h => by simp [redanref05_Mod.l1] at h, fun _ _ _ r h => by simp [redanref05_Mod.l2] at h, fun _ _ r h => by simp [redanref05_Mod.j3] at h, fun _ _ _ r h => by simp [redanref05_Mod.l3] at h, fun _ _ _ r h => by simp [redanref05_Mod.l4] at h⟩
  | k + 1 => by
    obtain ⟨ih0, ih1, ih2, ih3, ih4, ih5⟩ := redanref05_Mod.mono_l k
    refine ⟨?_, ?_, ?_, ?_, ?_, ?_⟩
    · intro y0
      unfold redanref05_Mod.l0
      repeat' first
      | (with_reducible exact ih0 _)
      | (with_reducible exact ih1 _)
      | (with_reducible exact ih2 _ _ _)
      | (with_reducible exact ih3 _ _)
      | (with_reducible exact ih4 _ _ _)
      | (with_reducible exact ih5 _ _ _)
      | (with_reducible exact redanref05_carry.mono _ _)
      | (with_reducible exact redanref05_low.mono _ _)
      | (with_reducible exact LeO.refl _)
      | (with_reducible exact LeO.none _)
      | (with_reducible refine LeO.ite ?_ ?_)
      | (with_reducible refine LeO.bind ?_ (fun _ => ?_))
      | exact ih0 _
      | exact ih1 _
      | exact ih2 _ _ _
      | exact ih3 _ _
      | exact ih4 _ _ _
      | exact ih5 _ _ _
      | exact redanref05_carry.mono _ _
      | exact redanref05_low.mono _ _
      | exact LeO.none _
      | refine LeO.ite ?_ ?_
      | refine LeO.bind ?_ (fun _ => ?_)
    · intro y0
      unfold redanref05_Mod.l1
      repeat' first
      | (with_reducible exact ih0 _)
      | (with_reducible exact ih1 _)
      | (with_reducible exact ih2 _ _ _)
      | (with_reducible exact ih3 _ _)
      | (with_reducible exact ih4 _ _ _)
      | (with_reducible exact ih5 _ _ _)
      | (with_reducible exact redanref05_carry.mono _ _)
      | (with_reducible exact redanref05_low.mono _ _)
      | (with_reducible exact LeO.refl _)
      | (with_reducible exact LeO.none _)
      | (with_reducible refine LeO.ite ?_ ?_)
      | (with_reducible refine LeO.bind ?_ (fun _ => ?_))
      | exact ih0 _
      | exact ih1 _
      | exact ih2 _ _ _
      | exact ih3 _ _
      | exact ih4 _ _ _
      | exact ih5 _ _ _
      | exact redanref05_carry.mono _ _
      | exact redanref05_low.mono _ _
      | exact LeO.none _
      | refine LeO.ite ?_ ?_
      | refine LeO.bind ?_ (fun _ => ?_)
    · intro y0 y1 y2
      unfold redanref05_Mod.l2
      repeat' first
      | (with_reducible exact ih0 _)
      | (with_reducible exact ih1 _)
      | (with_reducible exact ih2 _ _ _)
      | (with_reducible exact ih3 _ _)
      | (with_reducible exact ih4 _ _ _)
      | (with_reducible exact ih5 _ _ _)
      | (with_reducible exact redanref05_carry.mono _ _)
      | (with_reducible exact redanref05_low.mono _ _)
      | (with_reducible exact LeO.refl _)
      | (with_reducible exact LeO.none _)
      | (with_reducible refine LeO.ite ?_ ?_)
      | (with_reducible refine LeO.bind ?_ (fun _ => ?_))
      | exact ih0 _
      | exact ih1 _
      | exact ih2 _ _ _
      | exact ih3 _ _
      | exact ih4 _ _ _
      | exact ih5 _ _ _
      | exact redanref05_carry.mono _ _
      | exact redanref05_low.mono _ _
      | exact LeO.none _
      | refine LeO.ite ?_ ?_
      | refine LeO.bind ?_ (fun _ => ?_)
    · intro y0 y1
      unfold redanref05_Mod.j3
      repeat' first
      | (with_reducible exact ih0 _)
      | (with_reducible exact ih1 _)
      | (with_reducible exact ih2 _ _ _)
      | (with_reducible exact ih3 _ _)
      | (with_reducible exact ih4 _ _ _)
      | (with_reducible exact ih5 _ _ _)
      | (with_reducible exact redanref05_carry.mono _ _)
      | (with_reducible exact redanref05_low.mono _ _)
      | (with_reducible exact LeO.refl _)
      | (with_reducible exact LeO.none _)
      | (with_reducible refine LeO.ite ?_ ?_)
      | (with_reducible refine LeO.bind ?_ (fun _ => ?_))
      | exact ih0 _
      | exact ih1 _
      | exact ih2 _ _ _
      | exact ih3 _ _
      | exact ih4 _ _ _
      | exact ih5 _ _ _
      | exact redanref05_carry.mono _ _
      | exact redanref05_low.mono _ _
      | exact LeO.none _
      | refine LeO.ite ?_ ?_
      | refine LeO.bind ?_ (fun _ => ?_)
    · intro y0 y1 y2
      unfold redanref05_Mod.l3
      repeat' first
      | (with_reducible exact ih0 _)
      | (with_reducible exact ih1 _)
      | (with_reducible exact ih2 _ _ _)
      | (with_reducible exact ih3 _ _)
      | (with_reducible exact ih4 _ _ _)
      | (with_reducible exact ih5 _ _ _)
      | (with_reducible exact redanref05_carry.mono _ _)
      | (with_reducible exact redanref05_low.mono _ _)
      | (with_reducible exact LeO.refl _)
      | (with_reducible exact LeO.none _)
      | (with_reducible refine LeO.ite ?_ ?_)
      | (with_reducible refine LeO.bind ?_ (fun _ => ?_))
      | exact ih0 _
      | exact ih1 _
      | exact ih2 _ _ _
      | exact ih3 _ _
      | exact ih4 _ _ _
      | exact ih5 _ _ _
      | exact redanref05_carry.mono _ _
      | exact redanref05_low.mono _ _
      | exact LeO.none _
      | refine LeO.ite ?_ ?_
      | refine LeO.bind ?_ (fun _ => ?_)
    · intro y0 y1 y2
      unfold redanref05_Mod.l4
      repeat' first
      | (with_reducible exact ih0 _)
      | (with_reducible exact ih1 _)
      | (with_reducible exact ih2 _ _ _)
      | (with_reducible exact ih3 _ _)
      | (with_reducible exact ih4 _ _ _)
      | (with_reducible exact ih5 _ _ _)
      | (with_reducible exact redanref05_carry.mono _ _)
      | (with_reducible exact redanref05_low.mono _ _)
      | (with_reducible exact LeO.refl _)
      | (with_reducible exact LeO.none _)
      | (with_reducible refine LeO.ite ?_ ?_)
      | (with_reducible refine LeO.bind ?_ (fun _ => ?_))
      | exact ih0 _
      | exact ih1 _
      | exact ih2 _ _ _
      | exact ih3 _ _
      | exact ih4 _ _ _
      | exact ih5 _ _ _
      | exact redanref05_carry.mono _ _
      | exact redanref05_low.mono _ _
      | exact LeO.none _
      | refine LeO.ite ?_ ?_
      | refine LeO.bind ?_ (fun _ => ?_)
theorem redanref05_Mod.mono : ∀ a0 k, LeO (redanref05_Mod.f k a0) (redanref05_Mod.f (k + 1) a0) := by
  intro a0 k
  obtain ⟨ih0, ih1, ih2, ih3, ih4, ih5⟩ := redanref05_Mod.mono_l k
  unfold redanref05_Mod.f
  repeat' first
      | (with_reducible exact ih0 _)
      | (with_reducible exact ih1 _)
      | (with_reducible exact ih2 _ _ _)
      | (with_reducible exact ih3 _ _)
      | (with_reducible exact ih4 _ _ _)
      | (with_reducible exact ih5 _ _ _)
      | (with_reducible exact redanref05_carry.mono _ _)
      | (with_reducible exact redanref05_low.mono _ _)
      | (with_reducible exact LeO.refl _)
      | (with_reducible exact LeO.none _)
      | (with_reducible refine LeO.ite ?_ ?_)
      | (with_reducible refine LeO.bind ?_ (fun _ => ?_))
      | exact ih0 _
      | exact ih1 _
      | exact ih2 _ _ _
      | exact ih3 _ _
      | exact ih4 _ _ _
      | exact ih5 _ _ _
      | exact redanref05_carry.mono _ _
      | exact redanref05_low.mono _ _
      | exact LeO.none _
      | refine LeO.ite ?_ ?_
      | refine LeO.bind ?_ (fun _ => ?_)
set_option maxHeartbeats 8000000 in
set_option maxRecDepth 100000 in
theorem redanref05_Mod.calls (k : Nat) (A0 : Option Addr) (c0 : Nat) (l0 : List Int) (r : List Int) (w : World) (hr0 : Kd.C (Kd.int .i64) w A0 l0.length l0) (hc0 : l0.length ≤ c0) (h : redanref05_Mod.f k l0 = some r) :
    Calls Try.prog 51 #[.slice A0 l0.length c0] w fun e w' => ∃ v0_ : Value, e = .returned (v0_) ∧ Kd.R (Kd.int .i64) 3 w' w.heap.size (fun _ => True) v0_ r ∧ Below w.heap.size w w' := by
  have HR0 := Aside0.mk hr0
  have HC0 := Aside0.mk hc0
  clear hr0 hc0
  have HB := Aside0.mk (Below.refl w.heap.size w)
  have H : ((redanref05_carry.f k l0).bind fun t127 => (redanref05_Mod.l0 k t127)) = some r := h
  clear h
  replace H := Option.bind_eq_some_iff.mp H
  obtain ⟨t127, A20, H⟩ := H
  replace H : (redanref05_Mod.l0 k t127) = some r := H
  have A2 := Aside0.mk A20
  clear A20
  have H' := Aside0.mk H
  clear H
  go_enter Try.func51, Try.ntmps51
  go_wp2_with (first | ((with_reducible refine gate_callee (f := 64) rfl ?_); refine goesL_ (some 11) rfl rfl Try.func64 (by kernel_rfl) rfl #[.slice A0 l0.length c0] rfl (by (try simp only [List.map_toArray, List.map_cons, List.map_nil]); first | done | rfl | (simp only [List.length_drop, List.length_take]; rfl)) ?_; (with_reducible refine (redanref05_carry.calls k _ _ l0 t127 _ ?side1 ?side2 A2.out).mono ?_); (case side1 => repeat (first | exact HR0.out | (with_reducible refine Kd.C_alloc ?_ _) | (with_reducible refine Kd.C_drewN ?_ _) | (with_reducible refine Kd.C_drew ?_))); (case side2 => exact HC0.out); rintro e w3 ⟨v128, rfl, ho0, hb⟩; refine ⟨_, rfl, ?_⟩; have n0_ := Aside0.mk (Kd.R_lower ho0 (below_size (by repeat (first | (with_reducible first | exact HB.out | apply below_alloc | apply pw_below_drewN | apply below_drew1) | exact HB.out)))); have n1_ := Aside0.mk (below_step (by repeat (first | (with_reducible first | exact HB.out | apply below_alloc | apply pw_below_drewN | apply below_drew1) | exact HB.out)) hb); clear HB; have HO129 := n0_; have HB := n1_; clear n0_ n1_; (try clear hb); (try clear hb2); (try clear hk); (try clear hi); (try clear ho0)))
  go_loopg [0] k (fun kq v0 w' => ∃ (x0_1 : List Int), Aside0 (redanref05_Mod.l0 kq x0_1 = some r) ∧ Aside0 (kq ≤ k) ∧ Aside0 (Kd.R (Kd.int .i64) 3 w' w.heap.size (fun _ => True) v0 x0_1) ∧ Aside0 (Below w.heap.size w w'))
  case atStart => exact ⟨(t127), H', ⟨Nat.le_refl _⟩, ⟨by (with_reducible repeat (first | apply Kd.R_alloc | apply Kd.R_drewN | apply Kd.R_drew)); exact HO129.out⟩, ⟨by repeat (first | (with_reducible first | exact HB.out | apply below_alloc | apply pw_below_drewN | apply below_drew1) | exact HB.out)⟩⟩
  case round =>
    clear H'
    try clear p2
    obtain ⟨x0_1, HA, HK1, HO_0, HB⟩ := hrel
    cases gk with
    | zero => exact absurd HA.out (by simp [redanref05_Mod.l0])
    | succ k1 =>
      have H := HA.out
      clear HA
      simp only [redanref05_Mod.l0] at H
      have H' := Aside0.mk H
      clear H
      go_wp2
      go_loopg [0] k1 (fun kq v0 w' => ∃ (x0_2 : List Int), Aside0 (redanref05_Mod.l1 kq x0_2 = some r) ∧ Aside0 (kq ≤ k1) ∧ Aside0 (Kd.R (Kd.int .i64) 3 w' w.heap.size (fun _ => True) v0 x0_2) ∧ Aside0 (Below w.heap.size w w'))
      case atStart => exact ⟨(x0_1), H', ⟨Nat.le_refl _⟩, ⟨by (with_reducible repeat (first | apply Kd.R_alloc | apply Kd.R_drewN | apply Kd.R_drew)); exact HO_0.out⟩, ⟨by repeat (first | (with_reducible first | exact HB.out | apply below_alloc | apply pw_below_drewN | apply below_drew1) | exact HB.out)⟩⟩
      case round =>
        clear H'
        try clear p2
        try clear p2
        obtain ⟨x0_2, HA, HK2, HO_0, HB⟩ := hrel
        cases gk with
        | zero => exact absurd HA.out (by simp [redanref05_Mod.l1])
        | succ k2 =>
          have H := HA.out
          clear HA
          simp only [redanref05_Mod.l1] at H
          by_cases c4 : (x0_2.length : Int) < 32
          · rw [if_pos c4] at H
            have c4b0 : decide ((x0_2.length : Int) < 32) = true := decide_eq_true c4
            have c4b1 : decide (x0_2.length < 32) = true := decide_eq_true (by omega)
            clear c4
            by_cases c5 : x0_2.length < 17592186044416
            · rw [if_pos c5] at H
              have LMc5 := Aside0.mk c5
              clear c5
              obtain ⟨y130, hy130⟩ : ∃ y_ : List Int, y_ = (x0_2 ++ [0]) := ⟨_, rfl⟩
              replace H : (redanref05_Mod.l1 k2 y130) = some r := by first | (rw [hy130]; with_reducible exact H) | (have H2_ := (Option.bind_some _ _).symm.trans H; rw [hy130]; with_reducible exact H2_) | (have H2_ := (Option.bind_some _ _).symm.trans H; with_reducible exact H2_) | with_reducible exact H | (rw [hy130]; exact H) | exact H
              have Ny130 := Aside0.mk hy130
              clear hy130
              have H' := Aside0.mk H
              clear H
              obtain ⟨Ao6, co6, eo6⟩ := Kd.R_slice HO_0.out
              subst eo6
              go_wp2_with (first | ((with_reducible refine gate_builtin (b := .append) (xs := #[.tmp 15, .tmp 16]) rfl ?_); at_builtin; refine Kd.R_append (Kd.int .i64) (w0 := w) w.heap.size rfl (.tmp 15) (.tmp 16) 29 3 (.int .i64 0) 8 rfl Try.underlying29 info3 rfl (by decide) (by omega) (.slice Ao6 x0_2.length co6) x0_2 0 [.int .i64 0] (fun _ => True) (fun _ => False) rfl rfl ?aP (fun _ hk => hk.elim) ?aF ?aO ?aB ?aS ?aL ?_; (case aP => exact rfl); (case aB => exact (by repeat (first | (with_reducible first | exact HB.out | apply below_alloc | apply pw_below_drewN | apply below_drew1) | exact HB.out))); (case aF => exact (fun _ _ => trivial)); (case aO => exact (by (with_reducible repeat (first | apply Kd.R_alloc | apply Kd.R_drewN | apply Kd.R_drew)); exact HO_0.out)); (case aS => exact (below_size (by repeat (first | (with_reducible first | exact HB.out | apply below_alloc | apply pw_below_drewN | apply below_drew1) | exact HB.out)))); (case aL => have := LMc5.out; omega); intro v131 w7 ho hb hg hat; rw [← Ny130.out] at ho; have n0_ := Aside0.mk (hb); have n1_ := Aside0.mk (ho); clear HB; clear HO_0; have HB := n0_; have HO132 := n1_; clear n0_ n1_; clear ho hb hg hat))
              go_roundg k2
              case measure => have := HK1.out; have := HK2.out; omega
              case rel => exact ⟨(y130), H', ⟨by have := HK1.out; have := HK2.out; omega⟩, ⟨by (with_reducible repeat (first | apply Kd.R_alloc | apply Kd.R_drewN | apply Kd.R_drew)); exact HO132.out⟩, ⟨by repeat (first | (with_reducible first | exact HB.out | apply below_alloc | apply pw_below_drewN | apply below_drew1) | exact HB.out)⟩⟩
            · rw [if_neg c5] at H
              exact absurd H (by simp)
          · rw [if_neg c4] at H
            have c4b0 : decide ((x0_2.length : Int) < 32) = false := decide_eq_false c4
            have c4b1 : decide (x0_2.length < 32) = false := decide_eq_false (by omega)
            clear c4
            have H' := Aside0.mk H
            clear H
            obtain ⟨Ao8, co8, eo8⟩ := Kd.R_slice HO_0.out
            subst eo8
            go_wp2
            go_loopg [3, 4] k2 (fun kq v3 v4 w' => ∃ (x3_3 : Bool) (x4_3 : Int), v3 = .bool x3_3 ∧ v4 = .int .i64 x4_3 ∧ Aside0 (redanref05_Mod.l2 kq x0_2 x3_3 x4_3 = some r) ∧ Aside0 (kq ≤ k2) ∧ Aside0 (Kd.R (Kd.int .i64) 3 w' w.heap.size (fun _ => True) (.slice Ao8 x0_2.length co8) x0_2) ∧ Aside0 (Below w.heap.size w w'))
            case atStart => exact ⟨(false), (32), (by first | rfl | (simp; done) | (simp [*]; done)), (by first | rfl | (simp; done) | (simp [*]; done)), H', ⟨Nat.le_refl _⟩, ⟨by (with_reducible repeat (first | apply Kd.R_alloc | apply Kd.R_drewN | apply Kd.R_drew)); exact HO_0.out⟩, ⟨by repeat (first | (with_reducible first | exact HB.out | apply below_alloc | apply pw_below_drewN | apply below_drew1) | exact HB.out)⟩⟩
            case round =>
              clear H'
              try clear p2
              try clear c4
              try clear c4b0
              try clear c4b1
              try clear c5
              try clear c6
              try clear p2
              obtain ⟨x3_3, x4_3, rfl, rfl, HA, HK3, HO_0, HB⟩ := hrel
              cases gk with
              | zero => exact absurd HA.out (by simp [redanref05_Mod.l2])
              | succ k3 =>
                have H := HA.out
                clear HA
                simp only [redanref05_Mod.l2] at H
                by_cases c9 : x4_3 < (x0_2.length : Int)
                · rw [if_pos c9] at H
                  have c9b0 : decide (x4_3 < (x0_2.length : Int)) = true := decide_eq_true c9
                  clear c9
                  by_cases c10 : x3_3 = true
                  · subst c10
                    have H1 : (redanref05_Mod.l2 k3 x0_2 true (wrap64 (x4_3 + 1))) = some r := by rw [if_pos rfl] at H; exact H
                    clear H
                    have H := H1
                    clear H1
                    have H' := Aside0.mk H
                    clear H
                    go_wp2
                    go_roundg k3
                    case measure => have := HK1.out; have := HK2.out; have := HK3.out; omega
                    case rel => exact ⟨(true), (wrap64 (x4_3 + 1)), (by first | rfl | (simp; done) | (simp [*]; done)), (by first | rfl | (simp; done) | (simp [*]; done)), H', ⟨by have := HK1.out; have := HK2.out; have := HK3.out; omega⟩, ⟨by (with_reducible repeat (first | apply Kd.R_alloc | apply Kd.R_drewN | apply Kd.R_drew)); exact HO_0.out⟩, ⟨by repeat (first | (with_reducible first | exact HB.out | apply below_alloc | apply pw_below_drewN | apply below_drew1) | exact HB.out)⟩⟩
                  · replace c10 := Bool.eq_false_iff.mpr c10
                    subst c10
                    have H1 : (if 0 ≤ x4_3 then (redanref05_Mod.l2 k3 x0_2 (decide ((rd x0_2 x4_3) > 0)) (wrap64 (x4_3 + 1))) else (none)) = some r := by rw [if_neg (show ¬ (false = true) by decide)] at H; exact H
                    clear H
                    have H := H1
                    clear H1
                    by_cases c11 : 0 ≤ x4_3
                    · rw [if_pos c11] at H
                      have c11b0 : decide (0 ≤ x4_3) = true := decide_eq_true c11
                      clear c11
                      have H' := Aside0.mk H
                      clear H
                      have p133 : 0 ≤ (x4_3 : Int) := of_decide_eq_true (by first | (with_reducible assumption) | assumption)
                      have q133 : x4_3 < (x0_2.length : Int) := of_decide_eq_true (by first | (with_reducible assumption) | assumption)
                      obtain ⟨ad133, e133, hx133_0⟩ := Kd.at_int (Kd.R_reads' HO_0.out).2.2 x4_3 p133 q133
                      cases e133
                      replace p133 := eq_true p133
                      replace q133 := eq_true q133
                      go_wp2
                      go_roundg k3
                      case measure => have := HK1.out; have := HK2.out; have := HK3.out; omega
                      case rel => exact ⟨(decide ((rd x0_2 x4_3) > 0)), (wrap64 (x4_3 + 1)), (by first | rfl | (simp; done) | (simp [*]; done)), (by first | rfl | (simp; done) | (simp [*]; done)), H', ⟨by have := HK1.out; have := HK2.out; have := HK3.out; omega⟩, ⟨by (with_reducible repeat (first | apply Kd.R_alloc | apply Kd.R_drewN | apply Kd.R_drew)); exact HO_0.out⟩, ⟨by repeat (first | (with_reducible first | exact HB.out | apply below_alloc | apply pw_below_drewN | apply below_drew1) | exact HB.out)⟩⟩
                    · rw [if_neg c11] at H
                      exact absurd H (by simp)
                · rw [if_neg c9] at H
                  have c9b0 : decide (x4_3 < (x0_2.length : Int)) = false := decide_eq_false c9
                  clear c9
                  have HC12 := Aside0.mk H
                  clear H
                  go_upto_region 9 with (fail)
                  go_cut [39] (fun v39 wc => ∃ (kq : Nat) (x39_11 : Bool), v39 = .bool x39_11 ∧ Aside0 (redanref05_Mod.j3 kq x0_2 x39_11 = some r) ∧ Aside0 (kq ≤ k3) ∧ Aside0 (Kd.R (Kd.int .i64) 3 wc w.heap.size (fun _ => True) (.slice Ao8 x0_2.length co8) x0_2) ∧ Aside0 (Below w.heap.size w wc))
                  case first =>
                    have H := HC12.out
                    clear HC12
                    by_cases c13 : x3_3 = true
                    · subst c13
                      have H1 : (redanref05_Mod.j3 k3 x0_2 false) = some r := by rw [if_pos rfl] at H; exact H
                      clear H
                      have H := H1
                      clear H1
                      have H' := Aside0.mk H
                      clear H
                      go_wp2
                      go_meet
                      case rel => exact ⟨_, (false), (by first | rfl | (simp; done) | (simp [*]; done)), H', ⟨by have := HK1.out; have := HK2.out; have := HK3.out; first | omega | exact Nat.le_refl _⟩, ⟨by (with_reducible repeat (first | apply Kd.R_alloc | apply Kd.R_drewN | apply Kd.R_drew)); exact HO_0.out⟩, ⟨by repeat (first | (with_reducible first | exact HB.out | apply below_alloc | apply pw_below_drewN | apply below_drew1) | exact HB.out)⟩⟩
                    · replace c13 := Bool.eq_false_iff.mpr c13
                      subst c13
                      have H1 : (if 31 < (x0_2.length : Int) then (redanref05_Mod.j3 k3 x0_2 (decide ((rd x0_2 31) < 128))) else (none)) = some r := by rw [if_neg (show ¬ (false = true) by decide)] at H; exact H
                      clear H
                      have H := H1
                      clear H1
                      by_cases c14 : 31 < (x0_2.length : Int)
                      · rw [if_pos c14] at H
                        have c14b0 : decide (31 < (x0_2.length : Int)) = true := decide_eq_true c14
                        have c14b1 : decide (31 < x0_2.length) = true := decide_eq_true (by omega)
                        clear c14
                        (first | rw [c14b0] | (simp only [i64_w, i32_w]; rw [c14b0]) | skip)
                        have H' := Aside0.mk H
                        clear H
                        have p134 : 0 ≤ (31 : Int) := (by omega)
                        have q134 : 31 < (x0_2.length : Int) := of_decide_eq_true (by first | (with_reducible assumption) | assumption)
                        obtain ⟨ad134, e134, hx134_0⟩ := Kd.at_int (Kd.R_reads' HO_0.out).2.2 31 p134 q134
                        cases e134
                        (try simp only [show (31 : Int).toNat = 31 from rfl, Nat.reduceMul, Nat.reduceEqDiff, Go.Addr.add, ↓reduceIte] at hx134_0)
                        have qi134 : (31 < x0_2.length) = True := eq_true (by omega)
                        (try rw [show ((31 : Int)).toNat = 31 from rfl] at hx134_0)
                        replace p134 := eq_true p134
                        replace q134 := eq_true q134
                        go_wp2
                        go_meet
                        case rel => exact ⟨_, (decide ((rd x0_2 31) < 128)), (by first | rfl | (simp; done) | (simp [*]; done)), H', ⟨by have := HK1.out; have := HK2.out; have := HK3.out; first | omega | exact Nat.le_refl _⟩, ⟨by (with_reducible repeat (first | apply Kd.R_alloc | apply Kd.R_drewN | apply Kd.R_drew)); exact HO_0.out⟩, ⟨by repeat (first | (with_reducible first | exact HB.out | apply below_alloc | apply pw_below_drewN | apply below_drew1) | exact HB.out)⟩⟩
                      · rw [if_neg c14] at H
                        exact absurd H (by simp)
                  case rest =>
                    clear HC12
                    try clear c1
                    try clear p1
                    try clear q1
                    try clear hx1
                    try clear qi1
                    try clear p2
                    try clear c4
                    try clear c4b0
                    try clear c4b1
                    try clear c5
                    try clear c6
                    try clear p6
                    try clear c9
                    try clear c9b0
                    try clear c10
                    try clear c11
                    try clear c11b0
                    try clear c13
                    try clear p13
                    try clear q13
                    try clear hx13
                    try clear qi13
                    try clear c14
                    try clear c14b0
                    try clear c14b1
                    try clear hx133_0
                    try clear hx134_0
                    try clear p133
                    try clear p134
                    try clear p2
                    try clear q133
                    try clear q134
                    obtain ⟨kq, x39_11, rfl, HA, HJ11, HO_0, HB⟩ := hcut
                    cases kq with
                    | zero => exact absurd HA.out (by simp [redanref05_Mod.j3])
                    | succ kj11 =>
                      have H := HA.out
                      clear HA
                      simp only [redanref05_Mod.j3] at H
                      by_cases c15 : x39_11 = true
                      · subst c15
                        have H1 : (if 32 ≤ (x0_2.length : Int) then ((some (x0_2.take (32 : Int).toNat : List Int)).bind fun y135 => ((redanref05_low.f kj11 y135).bind fun t138 => (if t138 = true then (some y135) else (if 32 ≤ 35184372088832 then ((some (List.replicate 32 0 : List Int)).bind fun y139 => (if 0 < (y135.length : Int) then (if 0 < (y139.length : Int) then (some (y139.set (0 : Int).toNat (wrap64 ((rd y135 0) - 237)))) else (none)) else (none))) else (none))))) else (none)) = some r := by rw [if_pos rfl] at H; exact H
                        clear H
                        have H := H1
                        clear H1
                        by_cases c16 : 32 ≤ (x0_2.length : Int)
                        · rw [if_pos c16] at H
                          have c16b0 := eq_true c16
                          have c16b1 : decide (32 ≤ (x0_2.length : Int)) = true := decide_eq_true c16
                          clear c16
                          obtain ⟨y135, hy135⟩ : ∃ y_ : List Int, y_ = (x0_2.take (32 : Int).toNat) := ⟨_, rfl⟩
                          replace H : ((redanref05_low.f kj11 y135).bind fun t138 => (if t138 = true then (some y135) else (if 32 ≤ 35184372088832 then ((some (List.replicate 32 0 : List Int)).bind fun y139 => (if 0 < (y135.length : Int) then (if 0 < (y139.length : Int) then (some (y139.set (0 : Int).toNat (wrap64 ((rd y135 0) - 237)))) else (none)) else (none))) else (none)))) = some r := by first | (rw [hy135]; with_reducible exact H) | (have H2_ := (Option.bind_some _ _).symm.trans H; rw [hy135]; with_reducible exact H2_) | (have H2_ := (Option.bind_some _ _).symm.trans H; with_reducible exact H2_) | with_reducible exact H | (rw [hy135]; exact H) | exact H
                          have Ny135 := Aside0.mk hy135
                          clear hy135
                          replace H := Option.bind_eq_some_iff.mp H
                          obtain ⟨t138, A170, H⟩ := H
                          replace H : (if t138 = true then (some y135) else (if 32 ≤ 35184372088832 then ((some (List.replicate 32 0 : List Int)).bind fun y139 => (if 0 < (y135.length : Int) then (if 0 < (y139.length : Int) then (some (y139.set (0 : Int).toNat (wrap64 ((rd y135 0) - 237)))) else (none)) else (none))) else (none))) = some r := H
                          have A17 := Aside0.mk A170
                          clear A170
                          by_cases c18 : t138 = true
                          · subst c18
                            have H1 : (some y135) = some r := by rw [if_pos rfl] at H; exact H
                            clear H
                            have H := H1
                            clear H1
                            obtain rfl := Option.some.inj H
                            have q19 : (32 : Int) ≤ ((x0_2.length : Int) : Int) := of_decide_eq_true (by first | (with_reducible assumption) | assumption)
                            obtain ⟨i019, hi019, _, hsz19, _⟩ := info_parts info3
                            have hcut19 := cut_to (P := Try.prog) 29 3 .i64 Try.underlying29 hi019 Ao8 x0_2.length co8 32 (by omega) q19 (Kd.R_reads' HO_0.out).2.1
                            have hr19 := Kd.R_take (m := (32 : Int).toNat) HO_0.out (by omega)
                            have hy19 : y135.length = (32 : Int).toNat := (by rw [Ny135.out, List.length_take]; omega)
                            rw [← Ny135.out] at hr19
                            rw [← hy19] at hr19 hcut19
                            clear hy19 hi019 hsz19 HO_0
                            have HO137 := Aside0.mk hr19
                            clear hr19
                            replace q19 := eq_true q19
                            go_wp2_with (first | ((with_reducible refine gate_callee (f := 65) rfl ?_); refine goesL_ (some 100) rfl rfl Try.func65 (by kernel_rfl) rfl #[.slice Ao8 y135.length co8] rfl (by (try simp only [List.map_toArray, List.map_cons, List.map_nil]); first | done | rfl | (simp only [List.length_drop, List.length_take]; rfl)) ?_; (with_reducible refine (redanref05_low.calls kj11 _ _ y135 true _ ?side1 ?side2 A17.out).mono ?_); (case side1 => repeat (first | exact (Kd.R_reads' HO137.out).2.2 | (with_reducible refine Kd.C_alloc ?_ _) | (with_reducible refine Kd.C_drewN ?_ _) | (with_reducible refine Kd.C_drew ?_))); (case side2 => exact (Kd.R_reads' HO137.out).2.1); rintro e w' ⟨rfl, ⟨nd, rfl⟩⟩; refine ⟨_, rfl, ?_⟩))
                            go_ret
                            exact ⟨_, by first | rfl | (simp [errW_none, errW_some] <;> rfl) | (simp [*, errW_none, errW_some] <;> rfl), by (with_reducible repeat (first | apply Kd.R_alloc | apply Kd.R_drewN | apply Kd.R_drew)); exact HO137.out, by repeat (first | (with_reducible first | exact HB.out | apply below_alloc | apply pw_below_drewN | apply below_drew1) | exact HB.out)⟩
                          · replace c18 := Bool.eq_false_iff.mpr c18
                            subst c18
                            have H1 : (if 32 ≤ 35184372088832 then ((some (List.replicate 32 0 : List Int)).bind fun y139 => (if 0 < (y135.length : Int) then (if 0 < (y139.length : Int) then (some (y139.set (0 : Int).toNat (wrap64 ((rd y135 0) - 237)))) else (none)) else (none))) else (none)) = some r := by rw [if_neg (show ¬ (false = true) by decide)] at H; exact H
                            clear H
                            have H := H1
                            clear H1
                            by_cases c20 : 32 ≤ 35184372088832
                            · rw [if_pos c20] at H
                              have c20b0 := eq_true c20
                              have c20b1 : decide (32 ≤ 35184372088832) = true := decide_eq_true c20
                              clear c20
                              obtain ⟨y139, hy139⟩ : ∃ y_ : List Int, y_ = (List.replicate 32 0) := ⟨_, rfl⟩
                              replace H : (if 0 < (y135.length : Int) then (if 0 < (y139.length : Int) then (some (y139.set (0 : Int).toNat (wrap64 ((rd y135 0) - 237)))) else (none)) else (none)) = some r := by first | (rw [hy139]; with_reducible exact H) | (have H2_ := (Option.bind_some _ _).symm.trans H; rw [hy139]; with_reducible exact H2_) | (have H2_ := (Option.bind_some _ _).symm.trans H; with_reducible exact H2_) | with_reducible exact H | (rw [hy139]; exact H) | exact H
                              have Ny139 := Aside0.mk hy139
                              clear hy139
                              by_cases c21 : 0 < (y135.length : Int)
                              · rw [if_pos c21] at H
                                have c21b0 : decide (0 < (y135.length : Int)) = true := decide_eq_true c21
                                have c21b1 : decide (0 < y135.length) = true := decide_eq_true (by omega)
                                clear c21
                                by_cases c22 : 0 < (y139.length : Int)
                                · rw [if_pos c22] at H
                                  have c22b0 : decide (0 < (y139.length : Int)) = true := decide_eq_true c22
                                  have c22b1 : decide (0 < y139.length) = true := decide_eq_true (by omega)
                                  clear c22
                                  obtain ⟨y143, hy143⟩ : ∃ y_ : List Int, y_ = (y139.set (0 : Int).toNat (wrap64 ((rd y135 0) - 237))) := ⟨_, rfl⟩
                                  replace H : (some y143) = some r := by first | (rw [hy143]; with_reducible exact H) | (have H2_ := (Option.bind_some _ _).symm.trans H; rw [hy143]; with_reducible exact H2_) | (have H2_ := (Option.bind_some _ _).symm.trans H; with_reducible exact H2_) | with_reducible exact H | (rw [hy143]; exact H) | exact H
                                  have Ny143 := Aside0.mk hy143
                                  clear hy143
                                  obtain rfl := Option.some.inj H
                                  have q24 : (32 : Int) ≤ ((x0_2.length : Int) : Int) := of_decide_eq_true (by first | (with_reducible assumption) | assumption)
                                  obtain ⟨i024, hi024, _, hsz24, _⟩ := info_parts info3
                                  have hcut24 := cut_to (P := Try.prog) 29 3 .i64 Try.underlying29 hi024 Ao8 x0_2.length co8 32 (by omega) q24 (Kd.R_reads' HO_0.out).2.1
                                  have hr24 := Kd.R_take (m := (32 : Int).toNat) HO_0.out (by omega)
                                  have hy24 : y135.length = (32 : Int).toNat := (by rw [Ny135.out, List.length_take]; omega)
                                  rw [← Ny135.out] at hr24
                                  rw [← hy24] at hr24 hcut24
                                  clear hy24 hi024 hsz24 HO_0
                                  have HO137 := Aside0.mk hr24
                                  clear hr24
                                  replace q24 := eq_true q24
                                  go_wp2_with (first | ((with_reducible refine gate_callee (f := 65) rfl ?_); refine goesL_ (some 100) rfl rfl Try.func65 (by kernel_rfl) rfl #[.slice Ao8 y135.length co8] rfl (by (try simp only [List.map_toArray, List.map_cons, List.map_nil]); first | done | rfl | (simp only [List.length_drop, List.length_take]; rfl)) ?_; (with_reducible refine (redanref05_low.calls kj11 _ _ y135 false _ ?side1 ?side2 A17.out).mono ?_); (case side1 => repeat (first | exact (Kd.R_reads' HO137.out).2.2 | (with_reducible refine Kd.C_alloc ?_ _) | (with_reducible refine Kd.C_drewN ?_ _) | (with_reducible refine Kd.C_drew ?_))); (case side2 => exact (Kd.R_reads' HO137.out).2.1); rintro e w' ⟨rfl, ⟨nd, rfl⟩⟩; refine ⟨_, rfl, ?_⟩; (try (rw [drewN_self wc]; generalize hq_ : World.drewN wc _ = wc; have n0_ : Aside0 (Kd.R (Kd.int .i64) 3 wc w.heap.size (fun _ => True) (.slice Ao8 y135.length co8) y135) := ⟨by rw [← hq_]; exact (by (with_reducible repeat (first | apply Kd.R_alloc | apply Kd.R_drewN | apply Kd.R_drew)); exact HO137.out)⟩; have n1_ : Aside0 (Below w.heap.size w wc) := ⟨by rw [← hq_]; exact (by repeat (first | (with_reducible first | exact HB.out | apply below_alloc | apply pw_below_drewN | apply below_drew1) | exact HB.out))⟩; clear HO137 HB hq_; have HO137 := n0_; have HB := n1_; clear n0_ n1_))) | ((with_reducible refine gate_dst (N := 102) rfl ?_); refine Kd.R_make (Kd.int .i64) _ 3 rfl (N := 102) rfl 29 _ _ rfl 32 rfl rfl Try.underlying29 (.int .i64 0) 8 info3 rfl (by decide) (by omega) 0 (ok := fun _ => True) (okp := fun _ => True) rfl (fun _ hk => hk) trivial (by omega) (by omega) (Below.refl _ _) (Nat.le_refl _) ?_; intro v140 w25 ho26 hb hg_ hnew_; clear hg_ hnew_; (first | rw [← Ny139.out] at ho26 | (simp only [Int.reduceToNat] at ho26; rw [← Ny139.out] at ho26)); have n0_ := Aside0.mk (Kd.R_elder' (by (with_reducible repeat (first | apply Kd.R_alloc | apply Kd.R_drewN | apply Kd.R_drew)); exact HO137.out) (Kd.R_base ho26) hb); have n1_ := Aside0.mk (Kd.R_lower (Kd.R_new' ho26 (Kd.R_lt (by (with_reducible repeat (first | apply Kd.R_alloc | apply Kd.R_drewN | apply Kd.R_drew)); exact HO137.out))) (below_size (by repeat (first | (with_reducible first | exact HB.out | apply below_alloc | apply pw_below_drewN | apply below_drew1) | exact HB.out)))); have n2_ := Aside0.mk (below_step (by repeat (first | (with_reducible first | exact HB.out | apply below_alloc | apply pw_below_drewN | apply below_drew1) | exact HB.out)) hb); clear HO137; clear HB; have HO137 := n0_; have HO141 := n1_; have HB := n2_; clear n0_ n1_ n2_; clear hb ho26; have p142 : 0 ≤ (0 : Int) := (by omega); have q142 : 0 < (y135.length : Int) := of_decide_eq_true (by first | (with_reducible assumption) | assumption); obtain ⟨ad142, e142, hx142_0⟩ := Kd.at_int (Kd.R_reads' HO137.out).2.2 0 p142 q142; cases e142; have qi142 : (0 < y135.length) = True := eq_true (by omega); (try rw [show ((0 : Int)).toNat = 0 from rfl] at hx142_0); (try rw [Addr.add_zero'] at hx142_0); replace p142 := eq_true p142; replace q142 := eq_true q142; have p23 : 0 ≤ (0 : Int) := (by omega); have q23 : (0 : Int) < ((y139.length : Int) : Int) := of_decide_eq_true (by first | (with_reducible assumption) | assumption); have qi23 : (0 < y139.length) = True := eq_true (by omega); obtain ⟨go23, co23, eo23, gb23, gl23, cl23, HG23⟩ := Kd.R_form HO141.out (by omega); (first | cases eo23 | (injection eo23 with ea_ en_ ec_; (first | subst ea_ | (injection ea_ with ea_; subst ea_)); subst ec_; clear en_)); have GB23 := Aside0.mk gb23; have GG23 := Aside0.mk HG23; clear gb23 gl23 HG23; obtain ⟨hx23_0, hf23_0⟩ := Kd.R_celln 0 HO141.out (0 : Int) p23 q23; (try rw [show ((0 : Int)).toNat = 0 from rfl] at hx23_0); (try simp only [Nat.reduceMul, Nat.zero_mul, Nat.zero_add, Nat.reduceAdd] at hx23_0); (try rw [show ((0 : Int)).toNat = 0 from rfl] at hf23_0); (try simp only [Nat.reduceMul, Nat.zero_mul, Nat.zero_add, Nat.reduceAdd] at hf23_0); replace p23 := eq_true p23; replace q23 := eq_true q23; have n_ := Aside0.mk (Kd.R_mono (ok' := (fun k_ => some k_ ≠ (.slice (some ad142) y135.length co8 : Value).ownBlock)) HO141.out (fun k_ hk => hk.2)); clear HO141; have HO141 := n_; clear n_; obtain ⟨hy27_, hz27_⟩ := Kd.R_celln 0 HO141.out (0 : Int) (by omega) (of_decide_eq_true (by first | (with_reducible assumption) | assumption)); (try simp only [Int.reduceToNat, Int.toNat_zero, Int.toNat_ofNat, Nat.reduceMul, Nat.zero_mul, Nat.zero_add] at hy27_ hz27_); (try rw [show ((0 : Int)).toNat = 0 from rfl] at hy27_); (try rw [show ((0 : Int)).toNat = 0 from rfl] at hz27_); have HP27 := Kd.R_putg HO141.out (0 : Int) (wrap64 ((rd y135 0) - 237))) | ((with_reducible refine gate_store (t := 3) (p := 108) rfl ?_); refine store_event (t := 3) (p := 108) (v := ?vo_w28) (w1 := (w25.setCell ⟨go23, (0 : Int).toNat, none⟩ (.int .i64 (wrap64 ((rd y135 0) - 237))))) ?hg ?ho ?hn ?hr ?_; (case ho => rfl); (case hg => rfl); (case hn => rfl); (case hr => first | (go_simp; done) | (go_simp; rfl)); intro w28 hw; have hg : w25.grownBy w28 (some go23) := (by rw [hw]; exact HP27.2); have hp_ : Kd.R (Kd.int .i64) 3 w28 w.heap.size (fun k_ => some k_ ≠ (.slice (some ad142) y135.length co8 : Value).ownBlock) (.slice (some ⟨go23, 0, none⟩) y139.length co23) y143 := (by rw [hw, Ny143.out]; exact HP27.1); clear HP27; have n0_ := Aside0.mk (Kd.R_after (v := (.slice (some ⟨go23, 0, none⟩) y139.length co23)) (v1 := (.slice (some ⟨go23, 0, none⟩) y139.length co23)) (ok := (fun _ => True)) (by (with_reducible repeat (first | apply Kd.R_alloc | apply Kd.R_drewN | apply Kd.R_drew)); exact HO137.out) hg (.inl rfl)); have n1_ := Aside0.mk (hp_); have n2_ := Aside0.mk ((by rw [hw]; exact below_set (HB.out) GB23.out : Below w.heap.size w w28)); clear HO137; clear HO141; clear HB; have HO137 := n0_; have HO141 := n1_; have HB := n2_; clear n0_ n1_ n2_; clear hg hw hp_))
                                  go_ret
                                  exact ⟨_, by first | rfl | (simp [errW_none, errW_some] <;> rfl) | (simp [*, errW_none, errW_some] <;> rfl), by (with_reducible repeat (first | apply Kd.R_alloc | apply Kd.R_drewN | apply Kd.R_drew)); exact Kd.R_mono HO141.out (fun _ hk => trivial), by repeat (first | (with_reducible first | exact HB.out | apply below_alloc | apply pw_below_drewN | apply below_drew1) | exact HB.out)⟩
                                · rw [if_neg c22] at H
                                  exact absurd H (by simp)
                              · rw [if_neg c21] at H
                                exact absurd H (by simp)
                            · rw [if_neg c20] at H
                              exact absurd H (by simp)
                        · rw [if_neg c16] at H
                          exact absurd H (by simp)
                      · replace c15 := Bool.eq_false_iff.mpr c15
                        subst c15
                        have H1 : (if 0 ≤ (x0_2.length : Int) then (if ((x0_2.length : Int) : Int).toNat ≤ 35184372088832 then (redanref05_Mod.l3 kj11 x0_2 (List.replicate ((x0_2.length : Int) : Int).toNat 0) 0) else (none)) else (none)) = some r := by rw [if_neg (show ¬ (false = true) by decide)] at H; exact H
                        clear H
                        have H := H1
                        clear H1
                        by_cases c29 : 0 ≤ (x0_2.length : Int)
                        · rw [if_pos c29] at H
                          have c29b0 := eq_true c29
                          have c29b1 : decide (0 ≤ (x0_2.length : Int)) = true := decide_eq_true c29
                          clear c29
                          by_cases c30 : ((x0_2.length : Int) : Int).toNat ≤ 35184372088832
                          · rw [if_pos c30] at H
                            have c30b0 := eq_true c30
                            have c30b1 : decide (((x0_2.length : Int) : Int).toNat ≤ 35184372088832) = true := decide_eq_true c30
                            clear c30
                            obtain ⟨y144, hy144⟩ : ∃ y_ : List Int, y_ = (List.replicate ((x0_2.length : Int) : Int).toNat 0) := ⟨_, rfl⟩
                            replace H : (redanref05_Mod.l3 kj11 x0_2 y144 0) = some r := by first | (rw [hy144]; with_reducible exact H) | (have H2_ := (Option.bind_some _ _).symm.trans H; rw [hy144]; with_reducible exact H2_) | (have H2_ := (Option.bind_some _ _).symm.trans H; with_reducible exact H2_) | with_reducible exact H | (rw [hy144]; exact H) | exact H
                            have Ny144 := Aside0.mk hy144
                            clear hy144
                            have H' := Aside0.mk H
                            clear H
                            go_wp2_with (first | ((with_reducible refine gate_dst (N := 42) rfl ?_); refine Kd.R_make (Kd.int .i64) _ 3 rfl (N := 42) rfl 29 _ _ rfl (x0_2.length : Int) rfl rfl Try.underlying29 (.int .i64 0) 8 info3 rfl (by decide) (by omega) 0 (ok := fun _ => True) (okp := fun _ => True) rfl (fun _ hk => hk) trivial (of_decide_eq_true (by first | (with_reducible assumption) | assumption)) (Nat.le_trans (Nat.mul_le_mul_right _ (of_decide_eq_true (by first | (with_reducible assumption) | assumption) : (x0_2.length : Int).toNat ≤ 35184372088832)) (by omega)) (Below.refl _ _) (Nat.le_refl _) ?_; intro v145 w31 ho32 hb hg_ hnew_; clear hg_ hnew_; (first | rw [← Ny144.out] at ho32 | (simp only [Int.reduceToNat] at ho32; rw [← Ny144.out] at ho32)); have n0_ := Aside0.mk (Kd.R_elder' (by (with_reducible repeat (first | apply Kd.R_alloc | apply Kd.R_drewN | apply Kd.R_drew)); exact HO_0.out) (Kd.R_base ho32) hb); have n1_ := Aside0.mk (Kd.R_lower (Kd.R_new' ho32 (Kd.R_lt (by (with_reducible repeat (first | apply Kd.R_alloc | apply Kd.R_drewN | apply Kd.R_drew)); exact HO_0.out))) (below_size (by repeat (first | (with_reducible first | exact HB.out | apply below_alloc | apply pw_below_drewN | apply below_drew1) | exact HB.out)))); have n2_ := Aside0.mk (below_step (by repeat (first | (with_reducible first | exact HB.out | apply below_alloc | apply pw_below_drewN | apply below_drew1) | exact HB.out)) hb); clear HO_0; clear HB; have HO_0 := n0_; have HO146 := n1_; have HB := n2_; clear n0_ n1_ n2_; clear hb ho32))
                            go_loopg [6] kj11 (fun kq v6 w' => ∃ (x5_5 : List Int) (x6_5 : Int), v6 = .int .i64 x6_5 ∧ Aside0 (redanref05_Mod.l3 kq x0_2 x5_5 x6_5 = some r) ∧ Aside0 (kq ≤ kj11) ∧ Aside0 (Kd.R (Kd.int .i64) 3 w' w.heap.size (fun k_ => some k_ ≠ (v145 : Value).ownBlock) (.slice Ao8 x0_2.length co8) x0_2) ∧ Aside0 (Kd.R (Kd.int .i64) 3 w' w.heap.size (fun k_ => some k_ ≠ ((.slice Ao8 x0_2.length co8) : Value).ownBlock) v145 x5_5) ∧ Aside0 (Below w.heap.size w w'))
                            case atStart => exact ⟨(y144), (0), (by first | rfl | (simp; done) | (simp [*]; done)), H', ⟨Nat.le_refl _⟩, ⟨by (with_reducible repeat (first | apply Kd.R_alloc | apply Kd.R_drewN | apply Kd.R_drew)); exact Kd.R_mono HO_0.out (fun _ hk => hk.2)⟩, ⟨by (with_reducible repeat (first | apply Kd.R_alloc | apply Kd.R_drewN | apply Kd.R_drew)); exact Kd.R_mono HO146.out (fun _ hk => hk.2)⟩, ⟨by repeat (first | (with_reducible first | exact HB.out | apply below_alloc | apply pw_below_drewN | apply below_drew1) | exact HB.out)⟩⟩
                            case round =>
                              clear H'
                              try clear c1
                              try clear p1
                              try clear q1
                              try clear hx1
                              try clear qi1
                              try clear c2
                              try clear p2
                              try clear q2
                              try clear hx2
                              try clear qi2
                              try clear hf2
                              try clear c3
                              try clear c4
                              try clear c4b0
                              try clear c4b1
                              try clear c5
                              try clear c6
                              try clear p6
                              try clear c9
                              try clear c9b0
                              try clear c10
                              try clear c11
                              try clear c11b0
                              try clear c13
                              try clear p13
                              try clear q13
                              try clear hx13
                              try clear qi13
                              try clear c14
                              try clear c14b0
                              try clear c14b1
                              try clear p14
                              try clear q14
                              try clear hx14
                              try clear qi14
                              try clear c15
                              try clear c16
                              try clear c16b0
                              try clear c16b1
                              try clear c18
                              try clear q19
                              try clear c20
                              try clear c20b0
                              try clear c20b1
                              try clear c21
                              try clear c21b0
                              try clear c21b1
                              try clear c22
                              try clear c22b0
                              try clear c22b1
                              try clear p23
                              try clear q23
                              try clear hx23
                              try clear qi23
                              try clear hf23
                              try clear q24
                              try clear c29
                              try clear c29b0
                              try clear c29b1
                              try clear c30
                              try clear c30b0
                              try clear c30b1
                              try clear hx133_0
                              try clear hx134_0
                              try clear hx142_0
                              try clear hx23_0
                              try clear p1
                              try clear p13
                              try clear p133
                              try clear p134
                              try clear p142
                              try clear p2
                              try clear p23
                              try clear p6
                              try clear q1
                              try clear q13
                              try clear q133
                              try clear q134
                              try clear q142
                              try clear q19
                              try clear q23
                              try clear q24
                              obtain ⟨x5_5, x6_5, rfl, HA, HK5, HO_0, HO_5, HB⟩ := hrel
                              cases gk with
                              | zero => exact absurd HA.out (by simp [redanref05_Mod.l3])
                              | succ k5 =>
                                have H := HA.out
                                clear HA
                                simp only [redanref05_Mod.l3] at H
                                by_cases c33 : x6_5 < 32
                                · rw [if_pos c33] at H
                                  have c33b0 : decide (x6_5 < 32) = true := decide_eq_true c33
                                  clear c33
                                  by_cases c34 : 0 ≤ x6_5
                                  · rw [if_pos c34] at H
                                    have c34b0 : decide (0 ≤ x6_5) = true := decide_eq_true c34
                                    clear c34
                                    by_cases c35 : x6_5 < (x0_2.length : Int)
                                    · rw [if_pos c35] at H
                                      have c35b0 : decide (x6_5 < (x0_2.length : Int)) = true := decide_eq_true c35
                                      clear c35
                                      by_cases c36 : x6_5 < (x5_5.length : Int)
                                      · rw [if_pos c36] at H
                                        have c36b0 : decide (x6_5 < (x5_5.length : Int)) = true := decide_eq_true c36
                                        clear c36
                                        obtain ⟨y148, hy148⟩ : ∃ y_ : List Int, y_ = (x5_5.set (x6_5 : Int).toNat (rd x0_2 x6_5)) := ⟨_, rfl⟩
                                        replace H : (redanref05_Mod.l3 k5 x0_2 y148 (wrap64 (x6_5 + 1))) = some r := by first | (rw [hy148]; with_reducible exact H) | (have H2_ := (Option.bind_some _ _).symm.trans H; rw [hy148]; with_reducible exact H2_) | (have H2_ := (Option.bind_some _ _).symm.trans H; with_reducible exact H2_) | with_reducible exact H | (rw [hy148]; exact H) | exact H
                                        have Ny148 := Aside0.mk hy148
                                        clear hy148
                                        have H' := Aside0.mk H
                                        clear H
                                        have p147 : 0 ≤ (x6_5 : Int) := of_decide_eq_true (by first | (with_reducible assumption) | assumption)
                                        have q147 : x6_5 < (x0_2.length : Int) := of_decide_eq_true (by first | (with_reducible assumption) | assumption)
                                        obtain ⟨ad147, e147, hx147_0⟩ := Kd.at_int (Kd.R_reads' HO_0.out).2.2 x6_5 p147 q147
                                        cases e147
                                        replace p147 := eq_true p147
                                        replace q147 := eq_true q147
                                        have p37 : 0 ≤ (x6_5 : Int) := of_decide_eq_true (by first | (with_reducible assumption) | assumption)
                                        have q37 : (x6_5 : Int) < ((x5_5.length : Int) : Int) := of_decide_eq_true (by first | (with_reducible assumption) | assumption)
                                        obtain ⟨go37, co37, eo37, gb37, gl37, cl37, HG37⟩ := Kd.R_form HO_5.out (by omega)
                                        (first | cases eo37 | (injection eo37 with ea_ en_ ec_; (first | subst ea_ | (injection ea_ with ea_; subst ea_)); subst ec_; clear en_))
                                        have GB37 := Aside0.mk gb37
                                        have GG37 := Aside0.mk HG37
                                        clear gb37 gl37 HG37
                                        obtain ⟨hx37_0, hf37_0⟩ := Kd.R_celln 0 HO_5.out (x6_5 : Int) p37 q37
                                        replace p37 := eq_true p37
                                        replace q37 := eq_true q37
                                        have HP38 := Kd.R_putg HO_5.out (x6_5 : Int) (rd x0_2 x6_5)
                                        go_wp2_with (first | ((with_reducible refine gate_store (t := 3) (p := 53) rfl ?_); refine store_event (t := 3) (p := 53) (v := ?vo_w39) (w1 := (wr.setCell ⟨go37, (x6_5 : Int).toNat, none⟩ (.int .i64 (rd x0_2 x6_5)))) ?hg ?ho ?hn ?hr ?_; (case ho => rfl); (case hg => rfl); (case hn => rfl); (case hr => first | (go_simp; done) | (go_simp; rfl)); intro w39 hw; have hg : wr.grownBy w39 (some go37) := (by rw [hw]; exact HP38.2); have hp_ : Kd.R (Kd.int .i64) 3 w39 w.heap.size (fun k_ => some k_ ≠ (.slice (some ad147) x0_2.length co8 : Value).ownBlock) (.slice (some ⟨go37, 0, none⟩) x5_5.length co37) y148 := (by rw [hw, Ny148.out]; exact HP38.1); clear HP38; have n0_ := Aside0.mk (Kd.R_after (v := (.slice (some ⟨go37, 0, none⟩) x5_5.length co37)) (v1 := (.slice (some ⟨go37, 0, none⟩) x5_5.length co37)) (ok := (fun _ => True)) (by (with_reducible repeat (first | apply Kd.R_alloc | apply Kd.R_drewN | apply Kd.R_drew)); exact Kd.R_mono HO_0.out (fun _ hk => ⟨trivial, hk⟩)) hg (.inl rfl)); have n1_ := Aside0.mk (hp_); have n2_ := Aside0.mk ((by rw [hw]; exact below_set (HB.out) GB37.out : Below w.heap.size w w39)); clear HO_0; clear HO_5; clear HB; have HO_0 := n0_; have HO_5 := n1_; have HB := n2_; clear n0_ n1_ n2_; clear hg hw hp_))
                                        go_roundg k5
                                        case measure => have := HK1.out; have := HK2.out; have := HK3.out; have := HJ11.out; have := HK5.out; omega
                                        case rel => exact ⟨(y148), (wrap64 (x6_5 + 1)), (by first | rfl | (simp; done) | (simp [*]; done)), H', ⟨by have := HK1.out; have := HK2.out; have := HK3.out; have := HJ11.out; have := HK5.out; omega⟩, ⟨by (with_reducible repeat (first | apply Kd.R_alloc | apply Kd.R_drewN | apply Kd.R_drew)); exact Kd.R_mono HO_0.out (fun _ hk => hk.2)⟩, ⟨by (with_reducible repeat (first | apply Kd.R_alloc | apply Kd.R_drewN | apply Kd.R_drew)); exact HO_5.out⟩, ⟨by repeat (first | (with_reducible first | exact HB.out | apply below_alloc | apply pw_below_drewN | apply below_drew1) | exact HB.out)⟩⟩
                                      · rw [if_neg c36] at H
                                        exact absurd H (by simp)
                                    · rw [if_neg c35] at H
                                      exact absurd H (by simp)
                                  · rw [if_neg c34] at H
                                    exact absurd H (by simp)
                                · rw [if_neg c33] at H
                                  have c33b0 : decide (x6_5 < 32) = false := decide_eq_false c33
                                  clear c33
                                  by_cases c40 : 31 < (x0_2.length : Int)
                                  · rw [if_pos c40] at H
                                    have c40b0 : decide (31 < (x0_2.length : Int)) = true := decide_eq_true c40
                                    have c40b1 : decide (31 < x0_2.length) = true := decide_eq_true (by omega)
                                    clear c40
                                    by_cases c41 : 31 < (x5_5.length : Int)
                                    · rw [if_pos c41] at H
                                      have c41b0 : decide (31 < (x5_5.length : Int)) = true := decide_eq_true c41
                                      have c41b1 : decide (31 < x5_5.length) = true := decide_eq_true (by omega)
                                      clear c41
                                      obtain ⟨y150, hy150⟩ : ∃ y_ : List Int, y_ = (x5_5.set (31 : Int).toNat (Int.tmod (rd x0_2 31) 128)) := ⟨_, rfl⟩
                                      replace H : (redanref05_Mod.l4 k5 x0_2 y150 0) = some r := by first | (rw [hy150]; with_reducible exact H) | (have H2_ := (Option.bind_some _ _).symm.trans H; rw [hy150]; with_reducible exact H2_) | (have H2_ := (Option.bind_some _ _).symm.trans H; with_reducible exact H2_) | with_reducible exact H | (rw [hy150]; exact H) | exact H
                                      have Ny150 := Aside0.mk hy150
                                      clear hy150
                                      have H' := Aside0.mk H
                                      clear H
                                      have p149 : 0 ≤ (31 : Int) := (by omega)
                                      have q149 : 31 < (x0_2.length : Int) := of_decide_eq_true (by first | (with_reducible assumption) | assumption)
                                      obtain ⟨ad149, e149, hx149_0⟩ := Kd.at_int (Kd.R_reads' HO_0.out).2.2 31 p149 q149
                                      cases e149
                                      (try simp only [show (31 : Int).toNat = 31 from rfl, Nat.reduceMul, Nat.reduceEqDiff, Go.Addr.add, ↓reduceIte] at hx149_0)
                                      have qi149 : (31 < x0_2.length) = True := eq_true (by omega)
                                      (try rw [show ((31 : Int)).toNat = 31 from rfl] at hx149_0)
                                      replace p149 := eq_true p149
                                      replace q149 := eq_true q149
                                      have p42 : 0 ≤ (31 : Int) := (by omega)
                                      have q42 : (31 : Int) < ((x5_5.length : Int) : Int) := of_decide_eq_true (by first | (with_reducible assumption) | assumption)
                                      have qi42 : (31 < x5_5.length) = True := eq_true (by omega)
                                      obtain ⟨go42, co42, eo42, gb42, gl42, cl42, HG42⟩ := Kd.R_form HO_5.out (by omega)
                                      (first | cases eo42 | (injection eo42 with ea_ en_ ec_; (first | subst ea_ | (injection ea_ with ea_; subst ea_)); subst ec_; clear en_))
                                      have GB42 := Aside0.mk gb42
                                      have GG42 := Aside0.mk HG42
                                      clear gb42 gl42 HG42
                                      obtain ⟨hx42_0, hf42_0⟩ := Kd.R_celln 0 HO_5.out (31 : Int) p42 q42
                                      (try rw [show ((31 : Int)).toNat = 31 from rfl] at hx42_0)
                                      (try simp only [Nat.reduceMul, Nat.zero_mul, Nat.zero_add, Nat.reduceAdd] at hx42_0)
                                      (try rw [show ((31 : Int)).toNat = 31 from rfl] at hf42_0)
                                      (try simp only [Nat.reduceMul, Nat.zero_mul, Nat.zero_add, Nat.reduceAdd] at hf42_0)
                                      replace p42 := eq_true p42
                                      replace q42 := eq_true q42
                                      have HP43 := Kd.R_putg HO_5.out (31 : Int) (Int.tmod (rd x0_2 31) 128)
                                      go_wp2_with (first | ((with_reducible refine gate_store (t := 3) (p := 59) rfl ?_); refine store_event (t := 3) (p := 59) (v := ?vo_w44) (w1 := (wr.setCell ⟨go42, (31 : Int).toNat, none⟩ (.int .i64 (Int.tmod (rd x0_2 31) 128)))) ?hg ?ho ?hn ?hr ?_; (case ho => rfl); (case hg => rfl); (case hn => rfl); (case hr => first | (go_simp; done) | (go_simp; rfl)); intro w44 hw; have hg : wr.grownBy w44 (some go42) := (by rw [hw]; exact HP43.2); have hp_ : Kd.R (Kd.int .i64) 3 w44 w.heap.size (fun k_ => some k_ ≠ (.slice (some ad149) x0_2.length co8 : Value).ownBlock) (.slice (some ⟨go42, 0, none⟩) x5_5.length co42) y150 := (by rw [hw, Ny150.out]; exact HP43.1); clear HP43; have n0_ := Aside0.mk (Kd.R_after (v := (.slice (some ⟨go42, 0, none⟩) x5_5.length co42)) (v1 := (.slice (some ⟨go42, 0, none⟩) x5_5.length co42)) (ok := (fun _ => True)) (by (with_reducible repeat (first | apply Kd.R_alloc | apply Kd.R_drewN | apply Kd.R_drew)); exact Kd.R_mono HO_0.out (fun _ hk => ⟨trivial, hk⟩)) hg (.inl rfl)); have n1_ := Aside0.mk (hp_); have n2_ := Aside0.mk ((by rw [hw]; exact below_set (HB.out) GB42.out : Below w.heap.size w w44)); clear HO_0; clear HO_5; clear HB; have HO_0 := n0_; have HO_5 := n1_; have HB := n2_; clear n0_ n1_ n2_; clear hg hw hp_))
                                      go_loopg [7] k5 (fun kq v7 w' => ∃ (x5_6 : List Int) (x7_6 : Int), v7 = .int .i64 x7_6 ∧ Aside0 (redanref05_Mod.l4 kq x0_2 x5_6 x7_6 = some r) ∧ Aside0 (kq ≤ k5) ∧ Aside0 (Kd.R (Kd.int .i64) 3 w' w.heap.size (fun k_ => some k_ ≠ ((.slice (some ⟨go42, 0, none⟩) x5_5.length co42) : Value).ownBlock) (.slice (some ad149) x0_2.length co8) x0_2) ∧ Aside0 (Kd.R (Kd.int .i64) 3 w' w.heap.size (fun k_ => some k_ ≠ ((.slice (some ad149) x0_2.length co8) : Value).ownBlock) (.slice (some ⟨go42, 0, none⟩) x5_5.length co42) x5_6) ∧ Aside0 (Below w.heap.size w w'))
                                      case atStart => exact ⟨(y150), (0), (by first | rfl | (simp; done) | (simp [*]; done)), H', ⟨Nat.le_refl _⟩, ⟨by (with_reducible repeat (first | apply Kd.R_alloc | apply Kd.R_drewN | apply Kd.R_drew)); exact Kd.R_mono HO_0.out (fun _ hk => hk.2)⟩, ⟨by (with_reducible repeat (first | apply Kd.R_alloc | apply Kd.R_drewN | apply Kd.R_drew)); exact HO_5.out⟩, ⟨by repeat (first | (with_reducible first | exact HB.out | apply below_alloc | apply pw_below_drewN | apply below_drew1) | exact HB.out)⟩⟩
                                      case round =>
                                        clear H'
                                        try clear c1
                                        try clear p1
                                        try clear q1
                                        try clear hx1
                                        try clear qi1
                                        try clear c2
                                        try clear p2
                                        try clear q2
                                        try clear hx2
                                        try clear qi2
                                        try clear hf2
                                        try clear c3
                                        try clear p3
                                        try clear q3
                                        try clear hx3
                                        try clear hf3
                                        try clear c4
                                        try clear c4b0
                                        try clear c4b1
                                        try clear p4
                                        try clear q4
                                        try clear hx4
                                        try clear qi4
                                        try clear hf4
                                        try clear c5
                                        try clear c6
                                        try clear p6
                                        try clear c9
                                        try clear c9b0
                                        try clear c10
                                        try clear c11
                                        try clear c11b0
                                        try clear c13
                                        try clear p13
                                        try clear q13
                                        try clear hx13
                                        try clear qi13
                                        try clear c14
                                        try clear c14b0
                                        try clear c14b1
                                        try clear p14
                                        try clear q14
                                        try clear hx14
                                        try clear qi14
                                        try clear c15
                                        try clear c16
                                        try clear c16b0
                                        try clear c16b1
                                        try clear c18
                                        try clear q19
                                        try clear c20
                                        try clear c20b0
                                        try clear c20b1
                                        try clear c21
                                        try clear c21b0
                                        try clear c21b1
                                        try clear c22
                                        try clear c22b0
                                        try clear c22b1
                                        try clear p23
                                        try clear q23
                                        try clear hx23
                                        try clear qi23
                                        try clear hf23
                                        try clear q24
                                        try clear c29
                                        try clear c29b0
                                        try clear c29b1
                                        try clear c30
                                        try clear c30b0
                                        try clear c30b1
                                        try clear c33
                                        try clear c33b0
                                        try clear c34
                                        try clear c34b0
                                        try clear c35
                                        try clear c35b0
                                        try clear c36
                                        try clear c36b0
                                        try clear p37
                                        try clear q37
                                        try clear hx37
                                        try clear hf37
                                        try clear c40
                                        try clear c40b0
                                        try clear c40b1
                                        try clear c41
                                        try clear c41b0
                                        try clear c41b1
                                        try clear p42
                                        try clear q42
                                        try clear hx42
                                        try clear qi42
                                        try clear hf42
                                        try clear hx133_0
                                        try clear hx134_0
                                        try clear hx142_0
                                        try clear hx147_0
                                        try clear hx149_0
                                        try clear hx23_0
                                        try clear hx37_0
                                        try clear hx42_0
                                        try clear p1
                                        try clear p13
                                        try clear p133
                                        try clear p134
                                        try clear p14
                                        try clear p142
                                        try clear p147
                                        try clear p149
                                        try clear p2
                                        try clear p23
                                        try clear p37
                                        try clear p42
                                        try clear p6
                                        try clear q1
                                        try clear q13
                                        try clear q133
                                        try clear q134
                                        try clear q14
                                        try clear q142
                                        try clear q147
                                        try clear q149
                                        try clear q19
                                        try clear q2
                                        try clear q23
                                        try clear q24
                                        try clear q37
                                        try clear q42
                                        obtain ⟨x5_6, x7_6, rfl, HA, HK6, HO_0, HO_5, HB⟩ := hrel
                                        have hl5_6 := (Kd.R_reads' HO_5.out).1
                                        rw [hl5_6] at HO_5
                                        (try simp only [hl5_6])
                                        (try simp only [hl5_6] at HO_0)
                                        cases gk with
                                        | zero => exact absurd HA.out (by simp [redanref05_Mod.l4])
                                        | succ k6 =>
                                          have H := HA.out
                                          clear HA
                                          simp only [redanref05_Mod.l4] at H
                                          by_cases c45 : (wrap64 (x7_6 + 31)) < (x0_2.length : Int)
                                          · rw [if_pos c45] at H
                                            have c45b0 : decide ((wrap64 (x7_6 + 31)) < (x0_2.length : Int)) = true := decide_eq_true c45
                                            clear c45
                                            obtain ⟨ji46, hji46⟩ : ∃ j_ : Int, (wrap64 (x7_6 + 31)) = j_ := ⟨_, rfl⟩
                                            replace H : (if 0 ≤ (ji46) then (if (wrap64 (x7_6 + 32)) < (x0_2.length : Int) then (if 0 ≤ (wrap64 (x7_6 + 32)) then (if 0 ≤ x7_6 then (if x7_6 < (x5_6.length : Int) then (redanref05_Mod.l4 k6 x0_2 (x5_6.set (x7_6 : Int).toNat (wrap64 ((rd x5_6 x7_6) + (wrap64 (19 * (wrap64 ((wrap64 (Int.tdiv (rd x0_2 (ji46)) 128)) + (wrap64 ((Int.tmod (rd x0_2 (wrap64 (x7_6 + 32))) 128) * 2))))))))) (wrap64 (x7_6 + 1))) else (none)) else (none)) else (none)) else (if 0 ≤ x7_6 then (if x7_6 < (x5_6.length : Int) then (redanref05_Mod.l4 k6 x0_2 (x5_6.set (x7_6 : Int).toNat (wrap64 ((rd x5_6 x7_6) + (wrap64 (19 * (wrap64 (Int.tdiv (rd x0_2 (ji46)) 128))))))) (wrap64 (x7_6 + 1))) else (none)) else (none))) else (none)) = some r := by first | (rw [hji46] at H; exact H) | (simp only [hji46] at H ⊢; exact H)
                                            (try rw [hji46] at c45b0)
                                            have hji46w : (IntKind.i64.wrap (x7_6 + 31)) = ji46 := (i64_w _).trans hji46
                                            by_cases c47 : 0 ≤ (ji46)
                                            · rw [if_pos c47] at H
                                              have c47b0 : decide (0 ≤ (ji46)) = true := decide_eq_true c47
                                              clear c47
                                              by_cases c48 : (wrap64 (x7_6 + 32)) < (x0_2.length : Int)
                                              · rw [if_pos c48] at H
                                                have c48b0 : decide ((wrap64 (x7_6 + 32)) < (x0_2.length : Int)) = true := decide_eq_true c48
                                                clear c48
                                                obtain ⟨ji49, hji49⟩ : ∃ j_ : Int, (wrap64 (x7_6 + 32)) = j_ := ⟨_, rfl⟩
                                                replace H : (if 0 ≤ (ji49) then (if 0 ≤ x7_6 then (if x7_6 < (x5_6.length : Int) then (redanref05_Mod.l4 k6 x0_2 (x5_6.set (x7_6 : Int).toNat (wrap64 ((rd x5_6 x7_6) + (wrap64 (19 * (wrap64 ((wrap64 (Int.tdiv (rd x0_2 (ji46)) 128)) + (wrap64 ((Int.tmod (rd x0_2 (ji49)) 128) * 2))))))))) (wrap64 (x7_6 + 1))) else (none)) else (none)) else (none)) = some r := by first | (rw [hji49] at H; exact H) | (simp only [hji49] at H ⊢; exact H)
                                                (try rw [hji49] at c48b0)
                                                have hji49w : (IntKind.i64.wrap (x7_6 + 32)) = ji49 := (i64_w _).trans hji49
                                                by_cases c50 : 0 ≤ (ji49)
                                                · rw [if_pos c50] at H
                                                  have c50b0 : decide (0 ≤ (ji49)) = true := decide_eq_true c50
                                                  clear c50
                                                  by_cases c51 : 0 ≤ x7_6
                                                  · rw [if_pos c51] at H
                                                    have c51b0 : decide (0 ≤ x7_6) = true := decide_eq_true c51
                                                    clear c51
                                                    by_cases c52 : x7_6 < (x5_6.length : Int)
                                                    · rw [if_pos c52] at H
                                                      have c52b0 : decide (x7_6 < (x5_6.length : Int)) = true := decide_eq_true c52
                                                      clear c52
                                                      obtain ⟨y154, hy154⟩ : ∃ y_ : List Int, y_ = (x5_6.set (x7_6 : Int).toNat (wrap64 ((rd x5_6 x7_6) + (wrap64 (19 * (wrap64 ((wrap64 (Int.tdiv (rd x0_2 (ji46)) 128)) + (wrap64 ((Int.tmod (rd x0_2 (ji49)) 128) * 2))))))))) := ⟨_, rfl⟩
                                                      replace H : (redanref05_Mod.l4 k6 x0_2 y154 (wrap64 (x7_6 + 1))) = some r := by first | (rw [hy154]; with_reducible exact H) | (have H2_ := (Option.bind_some _ _).symm.trans H; rw [hy154]; with_reducible exact H2_) | (have H2_ := (Option.bind_some _ _).symm.trans H; with_reducible exact H2_) | with_reducible exact H | (rw [hy154]; exact H) | exact H
                                                      have Ny154 := Aside0.mk hy154
                                                      clear hy154
                                                      have H' := Aside0.mk H
                                                      clear H
                                                      have p151 : 0 ≤ ((ji46) : Int) := of_decide_eq_true (by first | (with_reducible assumption) | assumption)
                                                      have q151 : (ji46) < (x0_2.length : Int) := of_decide_eq_true (by first | (with_reducible assumption) | assumption)
                                                      obtain ⟨ad151, e151, hx151_0⟩ := Kd.at_int (Kd.R_reads' HO_0.out).2.2 (ji46) p151 q151
                                                      obtain rfl : ad149 = ad151 := (by injection e151)
                                                      replace p151 := eq_true p151
                                                      replace q151 := eq_true q151
                                                      have p152 : 0 ≤ ((ji49) : Int) := of_decide_eq_true (by first | (with_reducible assumption) | assumption)
                                                      have q152 : (ji49) < (x0_2.length : Int) := of_decide_eq_true (by first | (with_reducible assumption) | assumption)
                                                      obtain ⟨ad152, e152, hx152_0⟩ := Kd.at_int (Kd.R_reads' HO_0.out).2.2 (ji49) p152 q152
                                                      obtain rfl : ad149 = ad152 := (by injection e152)
                                                      replace p152 := eq_true p152
                                                      replace q152 := eq_true q152
                                                      have p153 : 0 ≤ (x7_6 : Int) := of_decide_eq_true (by first | (with_reducible assumption) | assumption)
                                                      have q153 : x7_6 < (x5_6.length : Int) := of_decide_eq_true (by first | (with_reducible assumption) | assumption)
                                                      obtain ⟨ad153, e153, hx153_0⟩ := Kd.at_int (Kd.R_reads' HO_5.out).2.2 x7_6 p153 q153
                                                      obtain rfl : (⟨go42, 0, none⟩ : Addr) = ad153 := (by injection e153)
                                                      (first | simp only [add_plain] at hx153_0 | simp only [add_at] at hx153_0 | simp only [Addr.add, Nat.zero_add] at hx153_0 | skip)
                                                      replace p153 := eq_true p153
                                                      replace q153 := eq_true q153
                                                      have p53 : 0 ≤ (x7_6 : Int) := of_decide_eq_true (by first | (with_reducible assumption) | assumption)
                                                      have q53 : (x7_6 : Int) < ((x5_6.length : Int) : Int) := of_decide_eq_true (by first | (with_reducible assumption) | assumption)
                                                      obtain ⟨hx53_0, hf53_0⟩ := Kd.R_celln 0 HO_5.out (x7_6 : Int) p53 q53
                                                      replace p53 := eq_true p53
                                                      replace q53 := eq_true q53
                                                      have HP54 := Kd.R_putg HO_5.out (x7_6 : Int) (wrap64 ((rd x5_6 x7_6) + (wrap64 (19 * (wrap64 ((wrap64 (Int.tdiv (rd x0_2 (ji46)) 128)) + (wrap64 ((Int.tmod (rd x0_2 (ji49)) 128) * 2))))))))
                                                      go_wp2_with (first | ((with_reducible refine gate_store (t := 3) (p := 94) rfl ?_); refine store_event (t := 3) (p := 94) (v := ?vo_w55) (w1 := (wr.setCell ⟨go42, (x7_6 : Int).toNat, none⟩ (.int .i64 (wrap64 ((rd x5_6 x7_6) + (wrap64 (19 * (wrap64 ((wrap64 (Int.tdiv (rd x0_2 (ji46)) 128)) + (wrap64 ((Int.tmod (rd x0_2 (ji49)) 128) * 2))))))))))) ?hg ?ho ?hn ?hr ?_; (case ho => rfl); (case hg => rfl); (case hn => rfl); (case hr => first | (go_simp; done) | (go_simp; rfl)); intro w55 hw; have hg : wr.grownBy w55 (some go42) := (by rw [hw]; exact HP54.2); have hp_ : Kd.R (Kd.int .i64) 3 w55 w.heap.size (fun k_ => some k_ ≠ (.slice (some ad149) x0_2.length co8 : Value).ownBlock) (.slice (some ⟨go42, 0, none⟩) x5_6.length co42) y154 := (by rw [hw, Ny154.out]; exact HP54.1); clear HP54; have n0_ := Aside0.mk (Kd.R_after (v := (.slice (some ⟨go42, 0, none⟩) x5_6.length co42)) (v1 := (.slice (some ⟨go42, 0, none⟩) x5_6.length co42)) (ok := (fun _ => True)) (by (with_reducible repeat (first | apply Kd.R_alloc | apply Kd.R_drewN | apply Kd.R_drew)); exact Kd.R_mono HO_0.out (fun _ hk => ⟨trivial, hk⟩)) hg (.inl rfl)); have n1_ := Aside0.mk (hp_); have n2_ := Aside0.mk ((by rw [hw]; exact below_set (HB.out) GB42.out : Below w.heap.size w w55)); clear HO_0; clear HO_5; clear HB; have HO_0 := n0_; have HO_5 := n1_; have HB := n2_; clear n0_ n1_ n2_; clear hg hw hp_))
                                                      (try simp only [← hl5_6])
                                                      go_roundg k6
                                                      case measure => have := HK1.out; have := HK2.out; have := HK3.out; have := HJ11.out; have := HK5.out; have := HK6.out; omega
                                                      case rel => exact ⟨(y154), (wrap64 (x7_6 + 1)), (by first | rfl | (simp; done) | (simp [*]; done)), H', ⟨by have := HK1.out; have := HK2.out; have := HK3.out; have := HJ11.out; have := HK5.out; have := HK6.out; omega⟩, ⟨by (try simp only [hl5_6]); (with_reducible repeat (first | apply Kd.R_alloc | apply Kd.R_drewN | apply Kd.R_drew)); exact Kd.R_mono HO_0.out (fun _ hk => hk.2)⟩, ⟨by (try simp only [hl5_6]); (with_reducible repeat (first | apply Kd.R_alloc | apply Kd.R_drewN | apply Kd.R_drew)); exact HO_5.out⟩, ⟨by repeat (first | (with_reducible first | exact HB.out | apply below_alloc | apply pw_below_drewN | apply below_drew1) | exact HB.out)⟩⟩
                                                    · rw [if_neg c52] at H
                                                      exact absurd H (by simp)
                                                  · rw [if_neg c51] at H
                                                    exact absurd H (by simp)
                                                · rw [if_neg c50] at H
                                                  exact absurd H (by simp)
                                              · rw [if_neg c48] at H
                                                have c48b0 : decide ((wrap64 (x7_6 + 32)) < (x0_2.length : Int)) = false := decide_eq_false c48
                                                clear c48
                                                by_cases c56 : 0 ≤ x7_6
                                                · rw [if_pos c56] at H
                                                  have c56b0 : decide (0 ≤ x7_6) = true := decide_eq_true c56
                                                  clear c56
                                                  by_cases c57 : x7_6 < (x5_6.length : Int)
                                                  · rw [if_pos c57] at H
                                                    have c57b0 : decide (x7_6 < (x5_6.length : Int)) = true := decide_eq_true c57
                                                    clear c57
                                                    obtain ⟨y156, hy156⟩ : ∃ y_ : List Int, y_ = (x5_6.set (x7_6 : Int).toNat (wrap64 ((rd x5_6 x7_6) + (wrap64 (19 * (wrap64 (Int.tdiv (rd x0_2 (ji46)) 128))))))) := ⟨_, rfl⟩
                                                    replace H : (redanref05_Mod.l4 k6 x0_2 y156 (wrap64 (x7_6 + 1))) = some r := by first | (rw [hy156]; with_reducible exact H) | (have H2_ := (Option.bind_some _ _).symm.trans H; rw [hy156]; with_reducible exact H2_) | (have H2_ := (Option.bind_some _ _).symm.trans H; with_reducible exact H2_) | with_reducible exact H | (rw [hy156]; exact H) | exact H
                                                    have Ny156 := Aside0.mk hy156
                                                    clear hy156
                                                    have H' := Aside0.mk H
                                                    clear H
                                                    have p151 : 0 ≤ ((ji46) : Int) := of_decide_eq_true (by first | (with_reducible assumption) | assumption)
                                                    have q151 : (ji46) < (x0_2.length : Int) := of_decide_eq_true (by first | (with_reducible assumption) | assumption)
                                                    obtain ⟨ad151, e151, hx151_0⟩ := Kd.at_int (Kd.R_reads' HO_0.out).2.2 (ji46) p151 q151
                                                    obtain rfl : ad149 = ad151 := (by injection e151)
                                                    replace p151 := eq_true p151
                                                    replace q151 := eq_true q151
                                                    have p155 : 0 ≤ (x7_6 : Int) := of_decide_eq_true (by first | (with_reducible assumption) | assumption)
                                                    have q155 : x7_6 < (x5_6.length : Int) := of_decide_eq_true (by first | (with_reducible assumption) | assumption)
                                                    obtain ⟨ad155, e155, hx155_0⟩ := Kd.at_int (Kd.R_reads' HO_5.out).2.2 x7_6 p155 q155
                                                    obtain rfl : (⟨go42, 0, none⟩ : Addr) = ad155 := (by injection e155)
                                                    (first | simp only [add_plain] at hx155_0 | simp only [add_at] at hx155_0 | simp only [Addr.add, Nat.zero_add] at hx155_0 | skip)
                                                    replace p155 := eq_true p155
                                                    replace q155 := eq_true q155
                                                    have p58 : 0 ≤ (x7_6 : Int) := of_decide_eq_true (by first | (with_reducible assumption) | assumption)
                                                    have q58 : (x7_6 : Int) < ((x5_6.length : Int) : Int) := of_decide_eq_true (by first | (with_reducible assumption) | assumption)
                                                    obtain ⟨hx58_0, hf58_0⟩ := Kd.R_celln 0 HO_5.out (x7_6 : Int) p58 q58
                                                    replace p58 := eq_true p58
                                                    replace q58 := eq_true q58
                                                    have HP59 := Kd.R_putg HO_5.out (x7_6 : Int) (wrap64 ((rd x5_6 x7_6) + (wrap64 (19 * (wrap64 (Int.tdiv (rd x0_2 (ji46)) 128))))))
                                                    go_wp2_with (first | ((with_reducible refine gate_store (t := 3) (p := 94) rfl ?_); refine store_event (t := 3) (p := 94) (v := ?vo_w60) (w1 := (wr.setCell ⟨go42, (x7_6 : Int).toNat, none⟩ (.int .i64 (wrap64 ((rd x5_6 x7_6) + (wrap64 (19 * (wrap64 (Int.tdiv (rd x0_2 (ji46)) 128))))))))) ?hg ?ho ?hn ?hr ?_; (case ho => rfl); (case hg => rfl); (case hn => rfl); (case hr => first | (go_simp; done) | (go_simp; rfl)); intro w60 hw; have hg : wr.grownBy w60 (some go42) := (by rw [hw]; exact HP59.2); have hp_ : Kd.R (Kd.int .i64) 3 w60 w.heap.size (fun k_ => some k_ ≠ (.slice (some ad149) x0_2.length co8 : Value).ownBlock) (.slice (some ⟨go42, 0, none⟩) x5_6.length co42) y156 := (by rw [hw, Ny156.out]; exact HP59.1); clear HP59; have n0_ := Aside0.mk (Kd.R_after (v := (.slice (some ⟨go42, 0, none⟩) x5_6.length co42)) (v1 := (.slice (some ⟨go42, 0, none⟩) x5_6.length co42)) (ok := (fun _ => True)) (by (with_reducible repeat (first | apply Kd.R_alloc | apply Kd.R_drewN | apply Kd.R_drew)); exact Kd.R_mono HO_0.out (fun _ hk => ⟨trivial, hk⟩)) hg (.inl rfl)); have n1_ := Aside0.mk (hp_); have n2_ := Aside0.mk ((by rw [hw]; exact below_set (HB.out) GB42.out : Below w.heap.size w w60)); clear HO_0; clear HO_5; clear HB; have HO_0 := n0_; have HO_5 := n1_; have HB := n2_; clear n0_ n1_ n2_; clear hg hw hp_))
                                                    (try simp only [← hl5_6])
                                                    go_roundg k6
                                                    case measure => have := HK1.out; have := HK2.out; have := HK3.out; have := HJ11.out; have := HK5.out; have := HK6.out; omega
                                                    case rel => exact ⟨(y156), (wrap64 (x7_6 + 1)), (by first | rfl | (simp; done) | (simp [*]; done)), H', ⟨by have := HK1.out; have := HK2.out; have := HK3.out; have := HJ11.out; have := HK5.out; have := HK6.out; omega⟩, ⟨by (try simp only [hl5_6]); (with_reducible repeat (first | apply Kd.R_alloc | apply Kd.R_drewN | apply Kd.R_drew)); exact Kd.R_mono HO_0.out (fun _ hk => hk.2)⟩, ⟨by (try simp only [hl5_6]); (with_reducible repeat (first | apply Kd.R_alloc | apply Kd.R_drewN | apply Kd.R_drew)); exact HO_5.out⟩, ⟨by repeat (first | (with_reducible first | exact HB.out | apply below_alloc | apply pw_below_drewN | apply below_drew1) | exact HB.out)⟩⟩
                                                  · rw [if_neg c57] at H
                                                    exact absurd H (by simp)
                                                · rw [if_neg c56] at H
                                                  exact absurd H (by simp)
                                            · rw [if_neg c47] at H
                                              exact absurd H (by simp)
                                          · rw [if_neg c45] at H
                                            have c45b0 : decide ((wrap64 (x7_6 + 31)) < (x0_2.length : Int)) = false := decide_eq_false c45
                                            clear c45
                                            replace H := Option.bind_eq_some_iff.mp H
                                            obtain ⟨t157, A610, H⟩ := H
                                            replace H : (redanref05_Mod.l0 k6 t157) = some r := H
                                            have A61 := Aside0.mk A610
                                            clear A610
                                            have H' := Aside0.mk H
                                            clear H
                                            go_wp2_with (first | ((with_reducible refine gate_callee (f := 64) rfl ?_); refine goesL_ (some 96) rfl rfl Try.func64 (by kernel_rfl) rfl #[.slice (some ⟨go42, 0, none⟩) x5_6.length co42] rfl (by (try simp only [List.map_toArray, List.map_cons, List.map_nil]); first | done | rfl | (simp only [List.length_drop, List.length_take]; rfl)) ?_; (with_reducible refine (redanref05_carry.calls k6 _ _ x5_6 t157 _ ?side1 ?side2 A61.out).mono ?_); (case side1 => repeat (first | exact (Kd.R_reads' HO_5.out).2.2 | (with_reducible refine Kd.C_alloc ?_ _) | (with_reducible refine Kd.C_drewN ?_ _) | (with_reducible refine Kd.C_drew ?_))); (case side2 => exact (Kd.R_reads' HO_5.out).2.1); rintro e w62 ⟨v158, rfl, ho0, hb⟩; refine ⟨_, rfl, ?_⟩; have n0_ := Aside0.mk (Kd.R_elder' (by (with_reducible repeat (first | apply Kd.R_alloc | apply Kd.R_drewN | apply Kd.R_drew)); exact HO_0.out) (Kd.R_base ho0) hb); have n1_ := Aside0.mk (Kd.R_elder' (by (with_reducible repeat (first | apply Kd.R_alloc | apply Kd.R_drewN | apply Kd.R_drew)); exact HO_5.out) (Kd.R_base ho0) hb); have n2_ := Aside0.mk (Kd.R_lower (Kd.R_new' (Kd.R_new' ho0 (Kd.R_lt (by (with_reducible repeat (first | apply Kd.R_alloc | apply Kd.R_drewN | apply Kd.R_drew)); exact HO_0.out))) (Kd.R_lt (by (with_reducible repeat (first | apply Kd.R_alloc | apply Kd.R_drewN | apply Kd.R_drew)); exact HO_5.out))) (below_size (by repeat (first | (with_reducible first | exact HB.out | apply below_alloc | apply pw_below_drewN | apply below_drew1) | exact HB.out)))); have n3_ := Aside0.mk (below_step (by repeat (first | (with_reducible first | exact HB.out | apply below_alloc | apply pw_below_drewN | apply below_drew1) | exact HB.out)) hb); clear HO_0; clear HO_5; clear HB; have HO_0 := n0_; have HO_5 := n1_; have HO159 := n2_; have HB := n3_; clear n0_ n1_ n2_ n3_; (try clear hb); (try clear hb2); (try clear hk); (try clear hi); (try clear ho0)))
                                            (try simp only [← hl5_6])
                                            go_roundg k6
                                            case measure => have := HK1.out; have := HK2.out; have := HK3.out; have := HJ11.out; have := HK5.out; have := HK6.out; omega
                                            case rel => exact ⟨(t157), H', ⟨by have := HK1.out; have := HK2.out; have := HK3.out; have := HJ11.out; have := HK5.out; have := HK6.out; omega⟩, ⟨by (try simp only [hl5_6]); (with_reducible repeat (first | apply Kd.R_alloc | apply Kd.R_drewN | apply Kd.R_drew)); exact Kd.R_mono HO159.out (fun _ hk => trivial)⟩, ⟨by repeat (first | (with_reducible first | exact HB.out | apply below_alloc | apply pw_below_drewN | apply below_drew1) | exact HB.out)⟩⟩
                                    · rw [if_neg c41] at H
                                      exact absurd H (by simp)
                                  · rw [if_neg c40] at H
                                    exact absurd H (by simp)
                          · rw [if_neg c30] at H
                            exact absurd H (by simp)
                        · rw [if_neg c29] at H
                          exact absurd H (by simp)

end Go.Proofs.Ytfklojheogidpaa.Ref
