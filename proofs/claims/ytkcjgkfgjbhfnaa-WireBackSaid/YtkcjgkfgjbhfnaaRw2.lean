-- contracts that the kit's print wrote for this claim, cut by wip/tools/cutprint.py
import Derived.Test.YtkcjgkfgjbhfnaaRw1
namespace Go.Proofs.Ytkcjgkfgjbhfnaa.Wr
open Go.RowKit Go.Proofs.YtkcjgkfgjbhfnaaW.PrintWords Go.Proofs.YtkcjgkfgjbhfnaaW.PrintLast Go.Proofs.YtkcjgkfgjbhfnaaW.PrintMore
attribute [local go_sem] max2_int min2_int max_two min_two max_three min_three max_four min_four   -- for this text's walks alone
set_option linter.unusedVariables false
set_option linter.unusedSimpArgs false


/-! ### words_Join: function 31 -/
def words_Join.l0 : Nat → List Int → List (List Int) → Int → Int → Option (List Int)
  | 0, _, _, _, _ => none
  | k + 1, x3, x6, x7, x8 => if x8 < x7 then (if 0 ≤ x8 then (if x8 < (x6.length : Int) then (if x3.length + (rd_L1 x6 x8).length < 140737488355328 then (words_Join.l0 k (x3 ++ (rd_L1 x6 x8)) x6 x7 (wrap64 (x8 + 1))) else (none)) else (none)) else (none)) else (some x3)
def words_Join.f (k : Nat) (l0 : List (List Int)) : Option (List Int) := words_Join.l0 k ([] : List Int) l0 (l0.length : Int) 0
theorem words_Join.mono_l : ∀ k, (∀ y0 y1 y2 y3, LeO (words_Join.l0 k y0 y1 y2 y3) (words_Join.l0 (k + 1) y0 y1 y2 y3))
  | 0 => fun _ _ _ _ r h => by simp [words_Join.l0] at h
  | k + 1 => by
    have ih0 := words_Join.mono_l k
    · intro y0 y1 y2 y3
      unfold words_Join.l0
      repeat' first
      | (with_reducible exact ih0 _ _ _ _)
      | (with_reducible exact LeO.refl _)
      | (with_reducible exact LeO.none _)
      | (with_reducible refine LeO.ite ?_ ?_)
      | (with_reducible refine LeO.bind ?_ (fun _ => ?_))
      | exact ih0 _ _ _ _
      | exact LeO.none _
      | refine LeO.ite ?_ ?_
      | refine LeO.bind ?_ (fun _ => ?_)
theorem words_Join.mono : ∀ a0 k, LeO (words_Join.f k a0) (words_Join.f (k + 1) a0) := by
  intro a0 k
  have ih0 := words_Join.mono_l k
  unfold words_Join.f
  repeat' first
      | (with_reducible exact ih0 _ _ _ _)
      | (with_reducible exact LeO.refl _)
      | (with_reducible exact LeO.none _)
      | (with_reducible refine LeO.ite ?_ ?_)
      | (with_reducible refine LeO.bind ?_ (fun _ => ?_))
      | exact ih0 _ _ _ _
      | exact LeO.none _
      | refine LeO.ite ?_ ?_
      | refine LeO.bind ?_ (fun _ => ?_)
set_option maxHeartbeats 8000000 in
set_option maxRecDepth 100000 in
theorem words_Join.calls (k : Nat) (A0 : Option Addr) (c0 : Nat) (l0 : List (List Int)) (r : List Int) (w : World) (hr0 : Kd.C (Kd.slice 5 (Kd.int .u8)) w A0 l0.length l0) (hc0 : l0.length ≤ c0) (h : words_Join.f k l0 = some r) :
    Calls Try.prog 31 #[.slice A0 l0.length c0] w fun e w' => ∃ v0_ : Value, e = .returned (v0_) ∧ Kd.R (Kd.int .u8) 5 w' w.heap.size (fun _ => True) v0_ r ∧ Below w.heap.size w w' := by
  have HR0 := Aside0.mk hr0
  have HC0 := Aside0.mk hc0
  clear hr0 hc0
  have HB := Aside0.mk (Below.refl w.heap.size w)
  have H : (words_Join.l0 k ([] : List Int) l0 (l0.length : Int) 0) = some r := h
  clear h
  have H' := Aside0.mk H
  clear H
  go_enter Try.func31, Try.ntmps31
  go_wp2
  go_loopg [3, 8] k (fun kq v3 v8 w' => ∃ (x3_1 : List Int) (x8_1 : Int), v8 = .int .i64 x8_1 ∧ Aside0 (words_Join.l0 kq x3_1 l0 (l0.length : Int) x8_1 = some r) ∧ Aside0 (kq ≤ k) ∧ Aside0 (Kd.R (Kd.int .u8) 5 w' w.heap.size (fun _ => True) v3 x3_1) ∧ Aside0 (Below w.heap.size w w'))
  case atStart => exact ⟨(([] : List Int)), (0), (by first | rfl | (simp; done) | (simp [*]; done)), H', ⟨Nat.le_refl _⟩, ⟨by first | exact Kd.R_nil _ _ _ _ _ | exact Kd.N_nil _ _ _ _ _ | exact Kd.V_nil _ _ _ _ _ | exact Kd.Q_nil _ _ _ _ _ | exact Kd.S_nil _ _ _ _ _⟩, ⟨by repeat (first | (with_reducible first | exact HB.out | apply below_alloc | apply pw_below_drewN | apply below_drew1) | exact HB.out)⟩⟩
  case round =>
    clear H'
    obtain ⟨x3_1, x8_1, rfl, HA, HK1, HO_3, HB⟩ := hrel
    cases gk with
    | zero => exact absurd HA.out (by simp [words_Join.l0])
    | succ k1 =>
      have H := HA.out
      clear HA
      simp only [words_Join.l0] at H
      by_cases c2 : x8_1 < (l0.length : Int)
      · rw [if_pos c2] at H
        have c2b0 : decide (x8_1 < (l0.length : Int)) = true := decide_eq_true c2
        clear c2
        by_cases c3 : 0 ≤ x8_1
        · rw [if_pos c3] at H
          have c3b0 : decide (0 ≤ x8_1) = true := decide_eq_true c3
          clear c3
          by_cases c4 : x8_1 < (l0.length : Int)
          · rw [if_pos c4] at H
            have c4b0 : decide (x8_1 < (l0.length : Int)) = true := decide_eq_true c4
            clear c4
            by_cases c5 : x3_1.length + (rd_L1 l0 x8_1).length < 140737488355328
            · rw [if_pos c5] at H
              have LMc5 := Aside0.mk c5
              clear c5
              obtain ⟨y103, hy103⟩ : ∃ y_ : List Int, y_ = (x3_1 ++ (rd_L1 l0 x8_1)) := ⟨_, rfl⟩
              replace H : (words_Join.l0 k1 y103 l0 (l0.length : Int) (wrap64 (x8_1 + 1))) = some r := by first | (rw [hy103]; with_reducible exact H) | (have H2_ := (Option.bind_some _ _).symm.trans H; rw [hy103]; with_reducible exact H2_) | (have H2_ := (Option.bind_some _ _).symm.trans H; with_reducible exact H2_) | with_reducible exact H | (rw [hy103]; exact H) | exact H
              have Ny103 := Aside0.mk hy103
              clear hy103
              have H' := Aside0.mk H
              clear H
              have p102 : 0 ≤ (x8_1 : Int) := of_decide_eq_true (by first | (with_reducible assumption) | assumption)
              have q102 : x8_1 < (l0.length : Int) := of_decide_eq_true (by first | (with_reducible assumption) | assumption)
              obtain ⟨ad102, A102_0, c102_0, e102, hx102_0, hl102_0, hi102_0⟩ := at_L1 HR0.out x8_1 p102 q102
              cases e102
              replace hx102_0 := (HB.out.cell (World.block_lt_of_cell? w _ hx102_0)).trans hx102_0
              have HR102_0 := Aside0.mk hi102_0
              have HC102_0 := Aside0.mk hl102_0
              clear hi102_0 hl102_0
              replace p102 := eq_true p102
              replace q102 := eq_true q102
              go_wp2_with (first | ((with_reducible refine gate_builtin (b := .append) (xs := #[.tmp 12, .tmp 13]) rfl ?_); at_builtin; refine Kd.R_append_rows (Kd.int .u8) (w0 := w) w.heap.size rfl (.tmp 12) (.tmp 13) 37 5 (.int .u8 0) 1 rfl Try.underlying37 info5 rfl (by decide) (by omega) u3 x3_1 (rd_L1 l0 x8_1) _ _ _ (fun _ => True) (fun _ => False) rfl rfl ?aO ?aR (fun _ _ h => h) (fun _ h => h.elim) ?aF ?aB ?aS ?aL ?_; (case aR => repeat (first | exact (Kd.C_below HR102_0.out HB.out) | (with_reducible refine Kd.C_alloc ?_ _) | (with_reducible refine Kd.C_drewN ?_ _) | (with_reducible refine Kd.C_drew ?_))); (case aB => exact (by repeat (first | (with_reducible first | exact HB.out | apply below_alloc | apply pw_below_drewN | apply below_drew1) | exact HB.out))); (case aF => exact (fun _ _ => trivial)); (case aO => exact (by (with_reducible repeat (first | apply Kd.R_alloc | apply Kd.R_drewN | apply Kd.R_drew)); exact HO_3.out)); (case aS => exact (below_size (by repeat (first | (with_reducible first | exact HB.out | apply below_alloc | apply pw_below_drewN | apply below_drew1) | exact HB.out)))); (case aL => have := LMc5.out; omega); intro v104 w6 ho hb hg hat; rw [← Ny103.out] at ho; have n0_ := Aside0.mk (hb); have n1_ := Aside0.mk (ho); clear HB; clear HO_3; have HB := n0_; have HO105 := n1_; clear n0_ n1_; clear ho hb hg hat))
              go_roundg k1
              case measure => have := HK1.out; omega
              case rel => exact ⟨(y103), (wrap64 (x8_1 + 1)), (by first | rfl | (simp; done) | (simp [*]; done)), H', ⟨by have := HK1.out; omega⟩, ⟨by (with_reducible repeat (first | apply Kd.R_alloc | apply Kd.R_drewN | apply Kd.R_drew)); exact HO105.out⟩, ⟨by repeat (first | (with_reducible first | exact HB.out | apply below_alloc | apply pw_below_drewN | apply below_drew1) | exact HB.out)⟩⟩
            · rw [if_neg c5] at H
              exact absurd H (by simp)
          · rw [if_neg c4] at H
            exact absurd H (by simp)
        · rw [if_neg c3] at H
          exact absurd H (by simp)
      · rw [if_neg c2] at H
        have c2b0 : decide (x8_1 < (l0.length : Int)) = false := decide_eq_false c2
        clear c2
        obtain rfl := Option.some.inj H
        go_wp2
        go_ret
        exact ⟨_, by first | rfl | (simp [errW_none, errW_some] <;> rfl) | (simp [*, errW_none, errW_some] <;> rfl), by (with_reducible repeat (first | apply Kd.R_alloc | apply Kd.R_drewN | apply Kd.R_drew)); exact HO_3.out, by repeat (first | (with_reducible first | exact HB.out | apply below_alloc | apply pw_below_drewN | apply below_drew1) | exact HB.out)⟩

/-! ### words_Load: function 38 -/
def words_Load.l0 : Nat → List Int → Int → Int → Int → Option (Int)
  | 0, _, _, _, _ => none
  | k + 1, x0, x3, x7, x8 => if x8 < x7 then (if 0 ≤ x8 then (if x8 < (x0.length : Int) then (if 0 ≤ (IntKind.u64.wrap (wrap64 (8 * x8))) then (words_Load.l0 k x0 (Go.bits .or .u64 x3 (shl .u64 (IntKind.u64.wrap (rd x0 x8)) (IntKind.u64.wrap (wrap64 (8 * x8))))) x7 (wrap64 (x8 + 1))) else (none)) else (none)) else (none)) else (some x3)
def words_Load.f (k : Nat) (l0 : List Int) : Option (Int) := words_Load.l0 k l0 0 (mn (l0.length : Int) 8) 0
theorem words_Load.mono_l : ∀ k, (∀ y0 y1 y2 y3, LeO (words_Load.l0 k y0 y1 y2 y3) (words_Load.l0 (k + 1) y0 y1 y2 y3))
  | 0 => fun _ _ _ _ r h => by simp [words_Load.l0] at h
  | k + 1 => by
    have ih0 := words_Load.mono_l k
    · intro y0 y1 y2 y3
      unfold words_Load.l0
      repeat' first
      | (with_reducible exact ih0 _ _ _ _)
      | (with_reducible exact LeO.refl _)
      | (with_reducible exact LeO.none _)
      | (with_reducible refine LeO.ite ?_ ?_)
      | (with_reducible refine LeO.bind ?_ (fun _ => ?_))
      | exact ih0 _ _ _ _
      | exact LeO.none _
      | refine LeO.ite ?_ ?_
      | refine LeO.bind ?_ (fun _ => ?_)
theorem words_Load.mono : ∀ a0 k, LeO (words_Load.f k a0) (words_Load.f (k + 1) a0) := by
  intro a0 k
  have ih0 := words_Load.mono_l k
  unfold words_Load.f
  repeat' first
      | (with_reducible exact ih0 _ _ _ _)
      | (with_reducible exact LeO.refl _)
      | (with_reducible exact LeO.none _)
      | (with_reducible refine LeO.ite ?_ ?_)
      | (with_reducible refine LeO.bind ?_ (fun _ => ?_))
      | exact ih0 _ _ _ _
      | exact LeO.none _
      | refine LeO.ite ?_ ?_
      | refine LeO.bind ?_ (fun _ => ?_)
set_option maxHeartbeats 8000000 in
set_option maxRecDepth 100000 in
theorem words_Load.calls (k : Nat) (A0 : Option Addr) (c0 : Nat) (l0 : List Int) (r : Int) (w : World) (hr0 : Kd.C (Kd.int .u8) w A0 l0.length l0) (hc0 : l0.length ≤ c0) (h : words_Load.f k l0 = some r) :
    Calls Try.prog 38 #[.slice A0 l0.length c0] w fun e w' => e = .returned (.int .u64 r) ∧ Below w.heap.size w w' := by
  have HR0 := Aside0.mk hr0
  have HC0 := Aside0.mk hc0
  clear hr0 hc0
  have HB := Aside0.mk (Below.refl w.heap.size w)
  have H : (words_Load.l0 k l0 0 (mn (l0.length : Int) 8) 0) = some r := h
  clear h
  obtain ⟨ji2, hji2⟩ : ∃ j_ : Int, (mn (l0.length : Int) 8) = j_ := ⟨_, rfl⟩
  replace H : (words_Load.l0 k l0 0 ji2 0) = some r := by first | (rw [hji2] at H; exact H) | (simp only [hji2] at H ⊢; exact H)
  (try (have hji2h : ji2 ≤ 8 := by (rw [← hji2]; unfold mn; (repeat' split) <;> omega)))
  (try (have hji2g : ji2 ≤ 64 := by omega))
  (try (have hji2l : 0 ≤ ji2 := by (rw [← hji2]; unfold mn; (repeat' split) <;> omega)))
  (try (have hji2m : 0 ≤ ji2 := by omega))
  have hji2_ : (if 8 < (l0.length : Int) then 8 else (l0.length : Int)) = ji2 := hji2
  have H' := Aside0.mk H
  clear H
  go_enter Try.func38, Try.ntmps38
  go_wp2
  go_loopg [3, 8] k (fun kq v3 v8 w' => ∃ (x3_1 : Int) (x8_1 : Int), v3 = .int .u64 x3_1 ∧ v8 = .int .i64 x8_1 ∧ Aside0 (words_Load.l0 kq l0 x3_1 ji2 x8_1 = some r) ∧ Aside0 (kq ≤ k) ∧ Aside0 (Below w.heap.size w w'))
  case atStart => exact ⟨(0), (0), (by first | rfl | (simp; done) | (simp [*]; done)), (by first | rfl | (simp; done) | (simp [*]; done)), H', ⟨Nat.le_refl _⟩, ⟨by repeat (first | (with_reducible first | exact HB.out | apply below_alloc | apply pw_below_drewN | apply below_drew1) | exact HB.out)⟩⟩
  case round =>
    clear H'
    try clear p2
    obtain ⟨x3_1, x8_1, rfl, rfl, HA, HK1, HB⟩ := hrel
    cases gk with
    | zero => exact absurd HA.out (by simp [words_Load.l0])
    | succ k1 =>
      have H := HA.out
      clear HA
      simp only [words_Load.l0] at H
      by_cases c3 : x8_1 < ji2
      · rw [if_pos c3] at H
        have c3b0 : decide (x8_1 < ji2) = true := decide_eq_true c3
        clear c3
        by_cases c4 : 0 ≤ x8_1
        · rw [if_pos c4] at H
          have c4b0 : decide (0 ≤ x8_1) = true := decide_eq_true c4
          clear c4
          by_cases c5 : x8_1 < (l0.length : Int)
          · rw [if_pos c5] at H
            have c5b0 : decide (x8_1 < (l0.length : Int)) = true := decide_eq_true c5
            clear c5
            obtain ⟨ji6, hji6⟩ : ∃ j_ : Int, (IntKind.u64.wrap (wrap64 (8 * x8_1))) = j_ := ⟨_, rfl⟩
            replace H : (if 0 ≤ (ji6) then (words_Load.l0 k1 l0 (Go.bits .or .u64 x3_1 (shl .u64 (IntKind.u64.wrap (rd l0 x8_1)) (ji6))) ji2 (wrap64 (x8_1 + 1))) else (none)) = some r := by first | (rw [hji6] at H; exact H) | (simp only [hji6] at H ⊢; exact H)
            by_cases c7 : 0 ≤ (ji6)
            · rw [if_pos c7] at H
              have c7b0 := eq_true c7
              have c7b1 : decide (0 ≤ (ji6)) = true := decide_eq_true c7
              clear c7
              obtain ⟨ji8, hji8⟩ : ∃ j_ : Int, (shl .u64 (IntKind.u64.wrap (rd l0 x8_1)) (ji6)) = j_ := ⟨_, rfl⟩
              replace H : (words_Load.l0 k1 l0 (Go.bits .or .u64 x3_1 (ji8)) ji2 (wrap64 (x8_1 + 1))) = some r := by first | (rw [hji8] at H; exact H) | (simp only [hji8] at H ⊢; exact H)
              have hji8_ : (IntKind.u64.wrap ((IntKind.u64.wrap (rd l0 x8_1)) * 2 ^ min (ji6).toNat 64)) = ji8 := hji8
              have hji8z : (ji6) ≤ 64 → (IntKind.u64.wrap ((IntKind.u64.wrap (rd l0 x8_1)) * 2 ^ (ji6).toNat)) = ji8 := shl_small hji8
              have H' := Aside0.mk H
              clear H
              have p181 : 0 ≤ (x8_1 : Int) := of_decide_eq_true (by first | (with_reducible assumption) | assumption)
              have q181 : x8_1 < (l0.length : Int) := of_decide_eq_true (by first | (with_reducible assumption) | assumption)
              obtain ⟨ad181, e181, hx181_0⟩ := Kd.at_int HR0.out x8_1 p181 q181
              cases e181
              replace hx181_0 := (HB.out.cell (World.block_lt_of_cell? w _ hx181_0)).trans hx181_0
              replace p181 := eq_true p181
              replace q181 := eq_true q181
              go_wp2
              go_roundg k1
              case measure => have := HK1.out; omega
              case rel => exact ⟨(Go.bits .or .u64 x3_1 (ji8)), (wrap64 (x8_1 + 1)), (by first | rfl | (simp; done) | (simp only [← hji8] <;> (first | rfl | simp)) | (simp [*]; done)), (by first | rfl | (simp; done) | (simp [*]; done)), H', ⟨by have := HK1.out; omega⟩, ⟨by repeat (first | (with_reducible first | exact HB.out | apply below_alloc | apply pw_below_drewN | apply below_drew1) | exact HB.out)⟩⟩
            · rw [if_neg c7] at H
              exact absurd H (by simp)
          · rw [if_neg c5] at H
            exact absurd H (by simp)
        · rw [if_neg c4] at H
          exact absurd H (by simp)
      · rw [if_neg c3] at H
        have c3b0 : decide (x8_1 < ji2) = false := decide_eq_false c3
        clear c3
        obtain rfl := Option.some.inj H
        go_wp2
        go_ret
        exact ⟨by first | rfl | (simp [errW_none, errW_some] <;> rfl) | (simp only [← hji2]; first | rfl | (simp [errW_none, errW_some] <;> rfl)) | (simp [*, errW_none, errW_some] <;> rfl), by repeat (first | (with_reducible first | exact HB.out | apply below_alloc | apply pw_below_drewN | apply below_drew1) | exact HB.out)⟩

/-! ### redanref18_May: function 21 -/
def redanref18_May.j0 : Nat → Int → Bool → Int → Int → Int → Int → Int → Int → List Int → Int → List Int → Option (Bool)
  | 0, _, _, _, _, _, _, _, _, _, _, _ => none
  | k + 1, x3, x86, x192000, x192001, x192002, x192003, x192004, x192005, x192006, x192007, x192008 => if x86 = true then (some false) else (if x192000 = 2 then (if (x192006.length : Int) = 16 then (if x192007 = 0 then (some (x3 == 0)) else (some false)) else (some false)) else (if x192000 = 3 then (if (x192006.length : Int) = 0 then (if x3 ≥ 16 then (some (decide (x3 ≤ 1187))) else (some false)) else (some false)) else (if x192000 = 4 then (if (x192006.length : Int) = 0 then (some (x3 == 16)) else (some false)) else (some false))))
def redanref18_May.f (k : Nat) (a0_0 : Int) (a0_1 : Int) (a0_2 : Int) (a0_3 : Int) (a0_4 : Int) (a0_5 : Int) (l0_6 : List Int) (a0_7 : Int) (l0_8 : List Int) : Option (Bool) := if a0_0 = 1 then (if a0_3 < 0 then (some false) else (if a0_3 > 7 then (some false) else (if a0_5 < 1 then (some false) else (if a0_5 > 64 then (some false) else (if a0_4 < 0 then (some false) else (if a0_4 ≥ a0_5 then (some false) else (if (l0_6.length : Int) = 16 then (if a0_7 = 0 then (if (l0_8.length : Int) < 1 then (some false) else (if (l0_8.length : Int) > 1024 then (some false) else (if (l0_8.length : Int) = 1024 then (some true) else (some ((wrap64 (a0_4 + 1)) == a0_5))))) else (some false)) else (some false)))))))) else (if a0_1 = 0 then (if a0_3 = 0 then (if a0_4 = 0 then (redanref18_May.j0 k (l0_8.length : Int) (a0_5 != 0) a0_0 a0_1 a0_2 a0_3 a0_4 a0_5 l0_6 a0_7 l0_8) else (redanref18_May.j0 k (l0_8.length : Int) true a0_0 a0_1 a0_2 a0_3 a0_4 a0_5 l0_6 a0_7 l0_8)) else (redanref18_May.j0 k (l0_8.length : Int) true a0_0 a0_1 a0_2 a0_3 a0_4 a0_5 l0_6 a0_7 l0_8)) else (redanref18_May.j0 k (l0_8.length : Int) true a0_0 a0_1 a0_2 a0_3 a0_4 a0_5 l0_6 a0_7 l0_8))
theorem redanref18_May.mono_l : ∀ k, (∀ y0 y1 y2 y3 y4 y5 y6 y7 y8 y9 y10, LeO (redanref18_May.j0 k y0 y1 y2 y3 y4 y5 y6 y7 y8 y9 y10) (redanref18_May.j0 (k + 1) y0 y1 y2 y3 y4 y5 y6 y7 y8 y9 y10))
  | 0 => fun _ _ _ _ _ _ _ _ _ _ _ r h => by simp [redanref18_May.j0] at h
  | k + 1 => by
    have ih0 := redanref18_May.mono_l k
    · intro y0 y1 y2 y3 y4 y5 y6 y7 y8 y9 y10
      unfold redanref18_May.j0
      repeat' first
      | (with_reducible exact ih0 _ _ _ _ _ _ _ _ _ _ _)
      | (with_reducible exact LeO.refl _)
      | (with_reducible exact LeO.none _)
      | (with_reducible refine LeO.ite ?_ ?_)
      | (with_reducible refine LeO.bind ?_ (fun _ => ?_))
      | exact ih0 _ _ _ _ _ _ _ _ _ _ _
      | exact LeO.none _
      | refine LeO.ite ?_ ?_
      | refine LeO.bind ?_ (fun _ => ?_)
theorem redanref18_May.mono : ∀ a0 a1 a2 a3 a4 a5 a6 a7 a8 k, LeO (redanref18_May.f k a0 a1 a2 a3 a4 a5 a6 a7 a8) (redanref18_May.f (k + 1) a0 a1 a2 a3 a4 a5 a6 a7 a8) := by
  intro a0 a1 a2 a3 a4 a5 a6 a7 a8 k
  have ih0 := redanref18_May.mono_l k
  unfold redanref18_May.f
  repeat' first
      | (with_reducible exact ih0 _ _ _ _ _ _ _ _ _ _ _)
      | (with_reducible exact LeO.refl _)
      | (with_reducible exact LeO.none _)
      | (with_reducible refine LeO.ite ?_ ?_)
      | (with_reducible refine LeO.bind ?_ (fun _ => ?_))
      | exact ih0 _ _ _ _ _ _ _ _ _ _ _
      | exact LeO.none _
      | refine LeO.ite ?_ ?_
      | refine LeO.bind ?_ (fun _ => ?_)
set_option maxHeartbeats 8000000 in
set_option maxRecDepth 100000 in
theorem redanref18_May.calls (k : Nat) (a0_0 : Int) (a0_1 : Int) (a0_2 : Int) (a0_3 : Int) (a0_4 : Int) (a0_5 : Int) (A0_6 : Option Addr) (c0_6 : Nat) (l0_6 : List Int) (a0_7 : Int) (A0_8 : Option Addr) (c0_8 : Nat) (l0_8 : List Int) (r : Bool) (w : World) (hr0_6 : Kd.C (Kd.int .u8) w A0_6 l0_6.length l0_6) (hc0_6 : l0_6.length ≤ c0_6) (hr0_8 : Kd.C (Kd.int .u8) w A0_8 l0_8.length l0_8) (hc0_8 : l0_8.length ≤ c0_8) (h : redanref18_May.f k a0_0 a0_1 a0_2 a0_3 a0_4 a0_5 l0_6 a0_7 l0_8 = some r) :
    Calls Try.prog 21 #[.agg #[.int .i64 a0_0, .int .u32 a0_1, .int .u32 a0_2, .int .i64 a0_3, .int .i64 a0_4, .int .i64 a0_5, .slice A0_6 l0_6.length c0_6, .int .u64 a0_7, .slice A0_8 l0_8.length c0_8]] w fun e w' => e = .returned (.bool r) ∧ Below w.heap.size w w' := by
  have hu46 := Try.underlying46
  have HR0_6 := Aside0.mk hr0_6
  have HC0_6 := Aside0.mk hc0_6
  clear hr0_6 hc0_6
  have HR0_8 := Aside0.mk hr0_8
  have HC0_8 := Aside0.mk hc0_8
  clear hr0_8 hc0_8
  have HB := Aside0.mk (Below.refl w.heap.size w)
  have H : (if a0_0 = 1 then (if a0_3 < 0 then (some false) else (if a0_3 > 7 then (some false) else (if a0_5 < 1 then (some false) else (if a0_5 > 64 then (some false) else (if a0_4 < 0 then (some false) else (if a0_4 ≥ a0_5 then (some false) else (if (l0_6.length : Int) = 16 then (if a0_7 = 0 then (if (l0_8.length : Int) < 1 then (some false) else (if (l0_8.length : Int) > 1024 then (some false) else (if (l0_8.length : Int) = 1024 then (some true) else (some ((wrap64 (a0_4 + 1)) == a0_5))))) else (some false)) else (some false)))))))) else (if a0_1 = 0 then (if a0_3 = 0 then (if a0_4 = 0 then (redanref18_May.j0 k (l0_8.length : Int) (a0_5 != 0) a0_0 a0_1 a0_2 a0_3 a0_4 a0_5 l0_6 a0_7 l0_8) else (redanref18_May.j0 k (l0_8.length : Int) true a0_0 a0_1 a0_2 a0_3 a0_4 a0_5 l0_6 a0_7 l0_8)) else (redanref18_May.j0 k (l0_8.length : Int) true a0_0 a0_1 a0_2 a0_3 a0_4 a0_5 l0_6 a0_7 l0_8)) else (redanref18_May.j0 k (l0_8.length : Int) true a0_0 a0_1 a0_2 a0_3 a0_4 a0_5 l0_6 a0_7 l0_8))) = some r := h
  clear h
  by_cases c2 : a0_0 = 1
  · rw [if_pos c2] at H
    have c2b0 : (a0_0 == 1) = true := beq_iff_eq.mpr c2
    have c2b1 : (a0_0 != 1) = false := bne_eq_false_iff_eq.mpr c2
    clear c2
    by_cases c3 : a0_3 < 0
    · rw [if_pos c3] at H
      have c3b0 : decide (a0_3 < 0) = true := decide_eq_true c3
      clear c3
      obtain rfl := Option.some.inj H
      go_enter Try.func21, Try.ntmps21
      go_wp2_with (first | ((with_reducible refine gate_dst (N := 1) rfl ?_); (try (refine gate_guard (by rfl) ?_; dsimp only)); refine box_event ?hg (N := 1) ?hd (cs := #[.int .i64 a0_0, .int .u32 a0_1, .int .u32 a0_2, .int .i64 a0_3, .int .i64 a0_4, .int .i64 a0_5, .slice A0_6 l0_6.length c0_6, .int .u64 a0_7, .slice A0_8 l0_8.length c0_8]) (t := 46) ?hr ?_; (case hd => rfl); (case hg => rfl); (case hr => first | (go_simp; done) | (go_simp; rfl)); intro gb191 hg w4 hbox hb; have n0_ := Aside0.mk (below_step (by repeat (first | (with_reducible first | exact HB.out | apply below_alloc | apply pw_below_drewN | apply below_drew1) | exact HB.out)) hb); have n1_ := Aside0.mk (hbox); have n2_ := Aside0.mk ((by rw [hg]; exact (below_size (by repeat (first | (with_reducible first | exact HB.out | apply below_alloc | apply pw_below_drewN | apply below_drew1) | exact HB.out))) : w.heap.size ≤ gb191)); have n3_ := Aside0.mk ((by rw [hg]; exact (below_size (by repeat (first | (with_reducible first | exact HB.out | apply below_alloc | apply pw_below_drewN | apply below_drew1) | exact HB.out))) : w.heap.size ≤ gb191)); clear HB; have HB := n0_; have BK191 := n1_; have GW191 := n2_; have GE191 := n3_; clear n0_ n1_ n2_ n3_; clear hb hbox hg; have hcz5_0 : w4.cell? ⟨gb191, 0, none⟩ = some (.int .i64 a0_0) := (blk_cell BK191.out 0).trans rfl; have hcz5_1 : w4.cell? ⟨gb191, 1, none⟩ = some (.int .u32 a0_1) := (blk_cell BK191.out 1).trans rfl; have hcz5_2 : w4.cell? ⟨gb191, 2, none⟩ = some (.int .u32 a0_2) := (blk_cell BK191.out 2).trans rfl; have hcz5_3 : w4.cell? ⟨gb191, 3, none⟩ = some (.int .i64 a0_3) := (blk_cell BK191.out 3).trans rfl; have hcz5_4 : w4.cell? ⟨gb191, 4, none⟩ = some (.int .i64 a0_4) := (blk_cell BK191.out 4).trans rfl; have hcz5_5 : w4.cell? ⟨gb191, 5, none⟩ = some (.int .i64 a0_5) := (blk_cell BK191.out 5).trans rfl; have hcz5_6 : w4.cell? ⟨gb191, 6, none⟩ = some (.slice A0_6 l0_6.length c0_6) := (blk_cell BK191.out 6).trans rfl; have hcz5_7 : w4.cell? ⟨gb191, 7, none⟩ = some (.int .u64 a0_7) := (blk_cell BK191.out 7).trans rfl; have hcz5_8 : w4.cell? ⟨gb191, 8, none⟩ = some (.slice A0_8 l0_8.length c0_8) := (blk_cell BK191.out 8).trans rfl; have hfz5_0 := blk_frozen BK191.out 0; have hfz5_1 := blk_frozen BK191.out 1; have hfz5_2 := blk_frozen BK191.out 2; have hfz5_3 := blk_frozen BK191.out 3; have hfz5_4 := blk_frozen BK191.out 4; have hfz5_5 := blk_frozen BK191.out 5; have hfz5_6 := blk_frozen BK191.out 6; have hfz5_7 := blk_frozen BK191.out 7; have hfz5_8 := blk_frozen BK191.out 8))
      go_ret
      exact ⟨by first | rfl | (simp [errW_none, errW_some] <;> rfl) | (simp [*, errW_none, errW_some] <;> rfl), by repeat (first | (with_reducible first | exact HB.out | apply below_alloc | apply pw_below_drewN | apply below_drew1 | refine below_set ?_ GE191.out) | exact HB.out)⟩
    · rw [if_neg c3] at H
      have c3b0 : decide (a0_3 < 0) = false := decide_eq_false c3
      clear c3
      by_cases c6 : a0_3 > 7
      · rw [if_pos c6] at H
        have c6b0 : decide (7 < a0_3) = true := decide_eq_true c6
        clear c6
        obtain rfl := Option.some.inj H
        go_enter Try.func21, Try.ntmps21
        go_wp2_with (first | ((with_reducible refine gate_dst (N := 1) rfl ?_); (try (refine gate_guard (by rfl) ?_; dsimp only)); refine box_event ?hg (N := 1) ?hd (cs := #[.int .i64 a0_0, .int .u32 a0_1, .int .u32 a0_2, .int .i64 a0_3, .int .i64 a0_4, .int .i64 a0_5, .slice A0_6 l0_6.length c0_6, .int .u64 a0_7, .slice A0_8 l0_8.length c0_8]) (t := 46) ?hr ?_; (case hd => rfl); (case hg => rfl); (case hr => first | (go_simp; done) | (go_simp; rfl)); intro gb191 hg w7 hbox hb; have n0_ := Aside0.mk (below_step (by repeat (first | (with_reducible first | exact HB.out | apply below_alloc | apply pw_below_drewN | apply below_drew1) | exact HB.out)) hb); have n1_ := Aside0.mk (hbox); have n2_ := Aside0.mk ((by rw [hg]; exact (below_size (by repeat (first | (with_reducible first | exact HB.out | apply below_alloc | apply pw_below_drewN | apply below_drew1) | exact HB.out))) : w.heap.size ≤ gb191)); have n3_ := Aside0.mk ((by rw [hg]; exact (below_size (by repeat (first | (with_reducible first | exact HB.out | apply below_alloc | apply pw_below_drewN | apply below_drew1) | exact HB.out))) : w.heap.size ≤ gb191)); clear HB; have HB := n0_; have BK191 := n1_; have GW191 := n2_; have GE191 := n3_; clear n0_ n1_ n2_ n3_; clear hb hbox hg; have hcz8_0 : w7.cell? ⟨gb191, 0, none⟩ = some (.int .i64 a0_0) := (blk_cell BK191.out 0).trans rfl; have hcz8_1 : w7.cell? ⟨gb191, 1, none⟩ = some (.int .u32 a0_1) := (blk_cell BK191.out 1).trans rfl; have hcz8_2 : w7.cell? ⟨gb191, 2, none⟩ = some (.int .u32 a0_2) := (blk_cell BK191.out 2).trans rfl; have hcz8_3 : w7.cell? ⟨gb191, 3, none⟩ = some (.int .i64 a0_3) := (blk_cell BK191.out 3).trans rfl; have hcz8_4 : w7.cell? ⟨gb191, 4, none⟩ = some (.int .i64 a0_4) := (blk_cell BK191.out 4).trans rfl; have hcz8_5 : w7.cell? ⟨gb191, 5, none⟩ = some (.int .i64 a0_5) := (blk_cell BK191.out 5).trans rfl; have hcz8_6 : w7.cell? ⟨gb191, 6, none⟩ = some (.slice A0_6 l0_6.length c0_6) := (blk_cell BK191.out 6).trans rfl; have hcz8_7 : w7.cell? ⟨gb191, 7, none⟩ = some (.int .u64 a0_7) := (blk_cell BK191.out 7).trans rfl; have hcz8_8 : w7.cell? ⟨gb191, 8, none⟩ = some (.slice A0_8 l0_8.length c0_8) := (blk_cell BK191.out 8).trans rfl; have hfz8_0 := blk_frozen BK191.out 0; have hfz8_1 := blk_frozen BK191.out 1; have hfz8_2 := blk_frozen BK191.out 2; have hfz8_3 := blk_frozen BK191.out 3; have hfz8_4 := blk_frozen BK191.out 4; have hfz8_5 := blk_frozen BK191.out 5; have hfz8_6 := blk_frozen BK191.out 6; have hfz8_7 := blk_frozen BK191.out 7; have hfz8_8 := blk_frozen BK191.out 8))
        go_ret
        exact ⟨by first | rfl | (simp [errW_none, errW_some] <;> rfl) | (simp [*, errW_none, errW_some] <;> rfl), by repeat (first | (with_reducible first | exact HB.out | apply below_alloc | apply pw_below_drewN | apply below_drew1 | refine below_set ?_ GE191.out) | exact HB.out)⟩
      · rw [if_neg c6] at H
        have c6b0 : decide (7 < a0_3) = false := decide_eq_false c6
        clear c6
        by_cases c9 : a0_5 < 1
        · rw [if_pos c9] at H
          have c9b0 : decide (a0_5 < 1) = true := decide_eq_true c9
          clear c9
          obtain rfl := Option.some.inj H
          go_enter Try.func21, Try.ntmps21
          go_wp2_with (first | ((with_reducible refine gate_dst (N := 1) rfl ?_); (try (refine gate_guard (by rfl) ?_; dsimp only)); refine box_event ?hg (N := 1) ?hd (cs := #[.int .i64 a0_0, .int .u32 a0_1, .int .u32 a0_2, .int .i64 a0_3, .int .i64 a0_4, .int .i64 a0_5, .slice A0_6 l0_6.length c0_6, .int .u64 a0_7, .slice A0_8 l0_8.length c0_8]) (t := 46) ?hr ?_; (case hd => rfl); (case hg => rfl); (case hr => first | (go_simp; done) | (go_simp; rfl)); intro gb191 hg w10 hbox hb; have n0_ := Aside0.mk (below_step (by repeat (first | (with_reducible first | exact HB.out | apply below_alloc | apply pw_below_drewN | apply below_drew1) | exact HB.out)) hb); have n1_ := Aside0.mk (hbox); have n2_ := Aside0.mk ((by rw [hg]; exact (below_size (by repeat (first | (with_reducible first | exact HB.out | apply below_alloc | apply pw_below_drewN | apply below_drew1) | exact HB.out))) : w.heap.size ≤ gb191)); have n3_ := Aside0.mk ((by rw [hg]; exact (below_size (by repeat (first | (with_reducible first | exact HB.out | apply below_alloc | apply pw_below_drewN | apply below_drew1) | exact HB.out))) : w.heap.size ≤ gb191)); clear HB; have HB := n0_; have BK191 := n1_; have GW191 := n2_; have GE191 := n3_; clear n0_ n1_ n2_ n3_; clear hb hbox hg; have hcz11_0 : w10.cell? ⟨gb191, 0, none⟩ = some (.int .i64 a0_0) := (blk_cell BK191.out 0).trans rfl; have hcz11_1 : w10.cell? ⟨gb191, 1, none⟩ = some (.int .u32 a0_1) := (blk_cell BK191.out 1).trans rfl; have hcz11_2 : w10.cell? ⟨gb191, 2, none⟩ = some (.int .u32 a0_2) := (blk_cell BK191.out 2).trans rfl; have hcz11_3 : w10.cell? ⟨gb191, 3, none⟩ = some (.int .i64 a0_3) := (blk_cell BK191.out 3).trans rfl; have hcz11_4 : w10.cell? ⟨gb191, 4, none⟩ = some (.int .i64 a0_4) := (blk_cell BK191.out 4).trans rfl; have hcz11_5 : w10.cell? ⟨gb191, 5, none⟩ = some (.int .i64 a0_5) := (blk_cell BK191.out 5).trans rfl; have hcz11_6 : w10.cell? ⟨gb191, 6, none⟩ = some (.slice A0_6 l0_6.length c0_6) := (blk_cell BK191.out 6).trans rfl; have hcz11_7 : w10.cell? ⟨gb191, 7, none⟩ = some (.int .u64 a0_7) := (blk_cell BK191.out 7).trans rfl; have hcz11_8 : w10.cell? ⟨gb191, 8, none⟩ = some (.slice A0_8 l0_8.length c0_8) := (blk_cell BK191.out 8).trans rfl; have hfz11_0 := blk_frozen BK191.out 0; have hfz11_1 := blk_frozen BK191.out 1; have hfz11_2 := blk_frozen BK191.out 2; have hfz11_3 := blk_frozen BK191.out 3; have hfz11_4 := blk_frozen BK191.out 4; have hfz11_5 := blk_frozen BK191.out 5; have hfz11_6 := blk_frozen BK191.out 6; have hfz11_7 := blk_frozen BK191.out 7; have hfz11_8 := blk_frozen BK191.out 8))
          go_ret
          exact ⟨by first | rfl | (simp [errW_none, errW_some] <;> rfl) | (simp [*, errW_none, errW_some] <;> rfl), by repeat (first | (with_reducible first | exact HB.out | apply below_alloc | apply pw_below_drewN | apply below_drew1 | refine below_set ?_ GE191.out) | exact HB.out)⟩
        · rw [if_neg c9] at H
          have c9b0 : decide (a0_5 < 1) = false := decide_eq_false c9
          clear c9
          by_cases c12 : a0_5 > 64
          · rw [if_pos c12] at H
            have c12b0 : decide (64 < a0_5) = true := decide_eq_true c12
            clear c12
            obtain rfl := Option.some.inj H
            go_enter Try.func21, Try.ntmps21
            go_wp2_with (first | ((with_reducible refine gate_dst (N := 1) rfl ?_); (try (refine gate_guard (by rfl) ?_; dsimp only)); refine box_event ?hg (N := 1) ?hd (cs := #[.int .i64 a0_0, .int .u32 a0_1, .int .u32 a0_2, .int .i64 a0_3, .int .i64 a0_4, .int .i64 a0_5, .slice A0_6 l0_6.length c0_6, .int .u64 a0_7, .slice A0_8 l0_8.length c0_8]) (t := 46) ?hr ?_; (case hd => rfl); (case hg => rfl); (case hr => first | (go_simp; done) | (go_simp; rfl)); intro gb191 hg w13 hbox hb; have n0_ := Aside0.mk (below_step (by repeat (first | (with_reducible first | exact HB.out | apply below_alloc | apply pw_below_drewN | apply below_drew1) | exact HB.out)) hb); have n1_ := Aside0.mk (hbox); have n2_ := Aside0.mk ((by rw [hg]; exact (below_size (by repeat (first | (with_reducible first | exact HB.out | apply below_alloc | apply pw_below_drewN | apply below_drew1) | exact HB.out))) : w.heap.size ≤ gb191)); have n3_ := Aside0.mk ((by rw [hg]; exact (below_size (by repeat (first | (with_reducible first | exact HB.out | apply below_alloc | apply pw_below_drewN | apply below_drew1) | exact HB.out))) : w.heap.size ≤ gb191)); clear HB; have HB := n0_; have BK191 := n1_; have GW191 := n2_; have GE191 := n3_; clear n0_ n1_ n2_ n3_; clear hb hbox hg; have hcz14_0 : w13.cell? ⟨gb191, 0, none⟩ = some (.int .i64 a0_0) := (blk_cell BK191.out 0).trans rfl; have hcz14_1 : w13.cell? ⟨gb191, 1, none⟩ = some (.int .u32 a0_1) := (blk_cell BK191.out 1).trans rfl; have hcz14_2 : w13.cell? ⟨gb191, 2, none⟩ = some (.int .u32 a0_2) := (blk_cell BK191.out 2).trans rfl; have hcz14_3 : w13.cell? ⟨gb191, 3, none⟩ = some (.int .i64 a0_3) := (blk_cell BK191.out 3).trans rfl; have hcz14_4 : w13.cell? ⟨gb191, 4, none⟩ = some (.int .i64 a0_4) := (blk_cell BK191.out 4).trans rfl; have hcz14_5 : w13.cell? ⟨gb191, 5, none⟩ = some (.int .i64 a0_5) := (blk_cell BK191.out 5).trans rfl; have hcz14_6 : w13.cell? ⟨gb191, 6, none⟩ = some (.slice A0_6 l0_6.length c0_6) := (blk_cell BK191.out 6).trans rfl; have hcz14_7 : w13.cell? ⟨gb191, 7, none⟩ = some (.int .u64 a0_7) := (blk_cell BK191.out 7).trans rfl; have hcz14_8 : w13.cell? ⟨gb191, 8, none⟩ = some (.slice A0_8 l0_8.length c0_8) := (blk_cell BK191.out 8).trans rfl; have hfz14_0 := blk_frozen BK191.out 0; have hfz14_1 := blk_frozen BK191.out 1; have hfz14_2 := blk_frozen BK191.out 2; have hfz14_3 := blk_frozen BK191.out 3; have hfz14_4 := blk_frozen BK191.out 4; have hfz14_5 := blk_frozen BK191.out 5; have hfz14_6 := blk_frozen BK191.out 6; have hfz14_7 := blk_frozen BK191.out 7; have hfz14_8 := blk_frozen BK191.out 8))
            go_ret
            exact ⟨by first | rfl | (simp [errW_none, errW_some] <;> rfl) | (simp [*, errW_none, errW_some] <;> rfl), by repeat (first | (with_reducible first | exact HB.out | apply below_alloc | apply pw_below_drewN | apply below_drew1 | refine below_set ?_ GE191.out) | exact HB.out)⟩
          · rw [if_neg c12] at H
            have c12b0 : decide (64 < a0_5) = false := decide_eq_false c12
            clear c12
            by_cases c15 : a0_4 < 0
            · rw [if_pos c15] at H
              have c15b0 : decide (a0_4 < 0) = true := decide_eq_true c15
              clear c15
              obtain rfl := Option.some.inj H
              go_enter Try.func21, Try.ntmps21
              go_wp2_with (first | ((with_reducible refine gate_dst (N := 1) rfl ?_); (try (refine gate_guard (by rfl) ?_; dsimp only)); refine box_event ?hg (N := 1) ?hd (cs := #[.int .i64 a0_0, .int .u32 a0_1, .int .u32 a0_2, .int .i64 a0_3, .int .i64 a0_4, .int .i64 a0_5, .slice A0_6 l0_6.length c0_6, .int .u64 a0_7, .slice A0_8 l0_8.length c0_8]) (t := 46) ?hr ?_; (case hd => rfl); (case hg => rfl); (case hr => first | (go_simp; done) | (go_simp; rfl)); intro gb191 hg w16 hbox hb; have n0_ := Aside0.mk (below_step (by repeat (first | (with_reducible first | exact HB.out | apply below_alloc | apply pw_below_drewN | apply below_drew1) | exact HB.out)) hb); have n1_ := Aside0.mk (hbox); have n2_ := Aside0.mk ((by rw [hg]; exact (below_size (by repeat (first | (with_reducible first | exact HB.out | apply below_alloc | apply pw_below_drewN | apply below_drew1) | exact HB.out))) : w.heap.size ≤ gb191)); have n3_ := Aside0.mk ((by rw [hg]; exact (below_size (by repeat (first | (with_reducible first | exact HB.out | apply below_alloc | apply pw_below_drewN | apply below_drew1) | exact HB.out))) : w.heap.size ≤ gb191)); clear HB; have HB := n0_; have BK191 := n1_; have GW191 := n2_; have GE191 := n3_; clear n0_ n1_ n2_ n3_; clear hb hbox hg; have hcz17_0 : w16.cell? ⟨gb191, 0, none⟩ = some (.int .i64 a0_0) := (blk_cell BK191.out 0).trans rfl; have hcz17_1 : w16.cell? ⟨gb191, 1, none⟩ = some (.int .u32 a0_1) := (blk_cell BK191.out 1).trans rfl; have hcz17_2 : w16.cell? ⟨gb191, 2, none⟩ = some (.int .u32 a0_2) := (blk_cell BK191.out 2).trans rfl; have hcz17_3 : w16.cell? ⟨gb191, 3, none⟩ = some (.int .i64 a0_3) := (blk_cell BK191.out 3).trans rfl; have hcz17_4 : w16.cell? ⟨gb191, 4, none⟩ = some (.int .i64 a0_4) := (blk_cell BK191.out 4).trans rfl; have hcz17_5 : w16.cell? ⟨gb191, 5, none⟩ = some (.int .i64 a0_5) := (blk_cell BK191.out 5).trans rfl; have hcz17_6 : w16.cell? ⟨gb191, 6, none⟩ = some (.slice A0_6 l0_6.length c0_6) := (blk_cell BK191.out 6).trans rfl; have hcz17_7 : w16.cell? ⟨gb191, 7, none⟩ = some (.int .u64 a0_7) := (blk_cell BK191.out 7).trans rfl; have hcz17_8 : w16.cell? ⟨gb191, 8, none⟩ = some (.slice A0_8 l0_8.length c0_8) := (blk_cell BK191.out 8).trans rfl; have hfz17_0 := blk_frozen BK191.out 0; have hfz17_1 := blk_frozen BK191.out 1; have hfz17_2 := blk_frozen BK191.out 2; have hfz17_3 := blk_frozen BK191.out 3; have hfz17_4 := blk_frozen BK191.out 4; have hfz17_5 := blk_frozen BK191.out 5; have hfz17_6 := blk_frozen BK191.out 6; have hfz17_7 := blk_frozen BK191.out 7; have hfz17_8 := blk_frozen BK191.out 8))
              go_ret
              exact ⟨by first | rfl | (simp [errW_none, errW_some] <;> rfl) | (simp [*, errW_none, errW_some] <;> rfl), by repeat (first | (with_reducible first | exact HB.out | apply below_alloc | apply pw_below_drewN | apply below_drew1 | refine below_set ?_ GE191.out) | exact HB.out)⟩
            · rw [if_neg c15] at H
              have c15b0 : decide (a0_4 < 0) = false := decide_eq_false c15
              clear c15
              by_cases c18 : a0_4 ≥ a0_5
              · rw [if_pos c18] at H
                have c18b0 : decide (a0_5 ≤ a0_4) = true := decide_eq_true c18
                clear c18
                obtain rfl := Option.some.inj H
                go_enter Try.func21, Try.ntmps21
                go_wp2_with (first | ((with_reducible refine gate_dst (N := 1) rfl ?_); (try (refine gate_guard (by rfl) ?_; dsimp only)); refine box_event ?hg (N := 1) ?hd (cs := #[.int .i64 a0_0, .int .u32 a0_1, .int .u32 a0_2, .int .i64 a0_3, .int .i64 a0_4, .int .i64 a0_5, .slice A0_6 l0_6.length c0_6, .int .u64 a0_7, .slice A0_8 l0_8.length c0_8]) (t := 46) ?hr ?_; (case hd => rfl); (case hg => rfl); (case hr => first | (go_simp; done) | (go_simp; rfl)); intro gb191 hg w19 hbox hb; have n0_ := Aside0.mk (below_step (by repeat (first | (with_reducible first | exact HB.out | apply below_alloc | apply pw_below_drewN | apply below_drew1) | exact HB.out)) hb); have n1_ := Aside0.mk (hbox); have n2_ := Aside0.mk ((by rw [hg]; exact (below_size (by repeat (first | (with_reducible first | exact HB.out | apply below_alloc | apply pw_below_drewN | apply below_drew1) | exact HB.out))) : w.heap.size ≤ gb191)); have n3_ := Aside0.mk ((by rw [hg]; exact (below_size (by repeat (first | (with_reducible first | exact HB.out | apply below_alloc | apply pw_below_drewN | apply below_drew1) | exact HB.out))) : w.heap.size ≤ gb191)); clear HB; have HB := n0_; have BK191 := n1_; have GW191 := n2_; have GE191 := n3_; clear n0_ n1_ n2_ n3_; clear hb hbox hg; have hcz20_0 : w19.cell? ⟨gb191, 0, none⟩ = some (.int .i64 a0_0) := (blk_cell BK191.out 0).trans rfl; have hcz20_1 : w19.cell? ⟨gb191, 1, none⟩ = some (.int .u32 a0_1) := (blk_cell BK191.out 1).trans rfl; have hcz20_2 : w19.cell? ⟨gb191, 2, none⟩ = some (.int .u32 a0_2) := (blk_cell BK191.out 2).trans rfl; have hcz20_3 : w19.cell? ⟨gb191, 3, none⟩ = some (.int .i64 a0_3) := (blk_cell BK191.out 3).trans rfl; have hcz20_4 : w19.cell? ⟨gb191, 4, none⟩ = some (.int .i64 a0_4) := (blk_cell BK191.out 4).trans rfl; have hcz20_5 : w19.cell? ⟨gb191, 5, none⟩ = some (.int .i64 a0_5) := (blk_cell BK191.out 5).trans rfl; have hcz20_6 : w19.cell? ⟨gb191, 6, none⟩ = some (.slice A0_6 l0_6.length c0_6) := (blk_cell BK191.out 6).trans rfl; have hcz20_7 : w19.cell? ⟨gb191, 7, none⟩ = some (.int .u64 a0_7) := (blk_cell BK191.out 7).trans rfl; have hcz20_8 : w19.cell? ⟨gb191, 8, none⟩ = some (.slice A0_8 l0_8.length c0_8) := (blk_cell BK191.out 8).trans rfl; have hfz20_0 := blk_frozen BK191.out 0; have hfz20_1 := blk_frozen BK191.out 1; have hfz20_2 := blk_frozen BK191.out 2; have hfz20_3 := blk_frozen BK191.out 3; have hfz20_4 := blk_frozen BK191.out 4; have hfz20_5 := blk_frozen BK191.out 5; have hfz20_6 := blk_frozen BK191.out 6; have hfz20_7 := blk_frozen BK191.out 7; have hfz20_8 := blk_frozen BK191.out 8))
                go_ret
                exact ⟨by first | rfl | (simp [errW_none, errW_some] <;> rfl) | (simp [*, errW_none, errW_some] <;> rfl), by repeat (first | (with_reducible first | exact HB.out | apply below_alloc | apply pw_below_drewN | apply below_drew1 | refine below_set ?_ GE191.out) | exact HB.out)⟩
              · rw [if_neg c18] at H
                have c18b0 : decide (a0_5 ≤ a0_4) = false := decide_eq_false c18
                clear c18
                by_cases c21 : (l0_6.length : Int) = 16
                · rw [if_pos c21] at H
                  have c21b0 : ((l0_6.length : Int) == 16) = true := beq_iff_eq.mpr c21
                  have c21b1 : ((l0_6.length : Int) != 16) = false := bne_eq_false_iff_eq.mpr c21
                  clear c21
                  by_cases c22 : a0_7 = 0
                  · rw [if_pos c22] at H
                    have c22b0 : (a0_7 == 0) = true := beq_iff_eq.mpr c22
                    have c22b1 : (a0_7 != 0) = false := bne_eq_false_iff_eq.mpr c22
                    clear c22
                    by_cases c23 : (l0_8.length : Int) < 1
                    · rw [if_pos c23] at H
                      have c23b0 : decide ((l0_8.length : Int) < 1) = true := decide_eq_true c23
                      have c23b1 : decide (l0_8.length < 1) = true := decide_eq_true (by omega)
                      clear c23
                      obtain rfl := Option.some.inj H
                      go_enter Try.func21, Try.ntmps21
                      go_wp2_with (first | ((with_reducible refine gate_dst (N := 1) rfl ?_); (try (refine gate_guard (by rfl) ?_; dsimp only)); refine box_event ?hg (N := 1) ?hd (cs := #[.int .i64 a0_0, .int .u32 a0_1, .int .u32 a0_2, .int .i64 a0_3, .int .i64 a0_4, .int .i64 a0_5, .slice A0_6 l0_6.length c0_6, .int .u64 a0_7, .slice A0_8 l0_8.length c0_8]) (t := 46) ?hr ?_; (case hd => rfl); (case hg => rfl); (case hr => first | (go_simp; done) | (go_simp; rfl)); intro gb191 hg w24 hbox hb; have n0_ := Aside0.mk (below_step (by repeat (first | (with_reducible first | exact HB.out | apply below_alloc | apply pw_below_drewN | apply below_drew1) | exact HB.out)) hb); have n1_ := Aside0.mk (hbox); have n2_ := Aside0.mk ((by rw [hg]; exact (below_size (by repeat (first | (with_reducible first | exact HB.out | apply below_alloc | apply pw_below_drewN | apply below_drew1) | exact HB.out))) : w.heap.size ≤ gb191)); have n3_ := Aside0.mk ((by rw [hg]; exact (below_size (by repeat (first | (with_reducible first | exact HB.out | apply below_alloc | apply pw_below_drewN | apply below_drew1) | exact HB.out))) : w.heap.size ≤ gb191)); clear HB; have HB := n0_; have BK191 := n1_; have GW191 := n2_; have GE191 := n3_; clear n0_ n1_ n2_ n3_; clear hb hbox hg; have hcz25_0 : w24.cell? ⟨gb191, 0, none⟩ = some (.int .i64 a0_0) := (blk_cell BK191.out 0).trans rfl; have hcz25_1 : w24.cell? ⟨gb191, 1, none⟩ = some (.int .u32 a0_1) := (blk_cell BK191.out 1).trans rfl; have hcz25_2 : w24.cell? ⟨gb191, 2, none⟩ = some (.int .u32 a0_2) := (blk_cell BK191.out 2).trans rfl; have hcz25_3 : w24.cell? ⟨gb191, 3, none⟩ = some (.int .i64 a0_3) := (blk_cell BK191.out 3).trans rfl; have hcz25_4 : w24.cell? ⟨gb191, 4, none⟩ = some (.int .i64 a0_4) := (blk_cell BK191.out 4).trans rfl; have hcz25_5 : w24.cell? ⟨gb191, 5, none⟩ = some (.int .i64 a0_5) := (blk_cell BK191.out 5).trans rfl; have hcz25_6 : w24.cell? ⟨gb191, 6, none⟩ = some (.slice A0_6 l0_6.length c0_6) := (blk_cell BK191.out 6).trans rfl; have hcz25_7 : w24.cell? ⟨gb191, 7, none⟩ = some (.int .u64 a0_7) := (blk_cell BK191.out 7).trans rfl; have hcz25_8 : w24.cell? ⟨gb191, 8, none⟩ = some (.slice A0_8 l0_8.length c0_8) := (blk_cell BK191.out 8).trans rfl; have hfz25_0 := blk_frozen BK191.out 0; have hfz25_1 := blk_frozen BK191.out 1; have hfz25_2 := blk_frozen BK191.out 2; have hfz25_3 := blk_frozen BK191.out 3; have hfz25_4 := blk_frozen BK191.out 4; have hfz25_5 := blk_frozen BK191.out 5; have hfz25_6 := blk_frozen BK191.out 6; have hfz25_7 := blk_frozen BK191.out 7; have hfz25_8 := blk_frozen BK191.out 8))
                      go_ret
                      exact ⟨by first | rfl | (simp [errW_none, errW_some] <;> rfl) | (simp [*, errW_none, errW_some] <;> rfl), by repeat (first | (with_reducible first | exact HB.out | apply below_alloc | apply pw_below_drewN | apply below_drew1 | refine below_set ?_ GE191.out) | exact HB.out)⟩
                    · rw [if_neg c23] at H
                      have c23b0 : decide ((l0_8.length : Int) < 1) = false := decide_eq_false c23
                      have c23b1 : decide (l0_8.length < 1) = false := decide_eq_false (by omega)
                      clear c23
                      by_cases c26 : (l0_8.length : Int) > 1024
                      · rw [if_pos c26] at H
                        have c26b0 : decide (1024 < (l0_8.length : Int)) = true := decide_eq_true c26
                        have c26b1 : decide (1024 < l0_8.length) = true := decide_eq_true (by omega)
                        clear c26
                        obtain rfl := Option.some.inj H
                        go_enter Try.func21, Try.ntmps21
                        go_wp2_with (first | ((with_reducible refine gate_dst (N := 1) rfl ?_); (try (refine gate_guard (by rfl) ?_; dsimp only)); refine box_event ?hg (N := 1) ?hd (cs := #[.int .i64 a0_0, .int .u32 a0_1, .int .u32 a0_2, .int .i64 a0_3, .int .i64 a0_4, .int .i64 a0_5, .slice A0_6 l0_6.length c0_6, .int .u64 a0_7, .slice A0_8 l0_8.length c0_8]) (t := 46) ?hr ?_; (case hd => rfl); (case hg => rfl); (case hr => first | (go_simp; done) | (go_simp; rfl)); intro gb191 hg w27 hbox hb; have n0_ := Aside0.mk (below_step (by repeat (first | (with_reducible first | exact HB.out | apply below_alloc | apply pw_below_drewN | apply below_drew1) | exact HB.out)) hb); have n1_ := Aside0.mk (hbox); have n2_ := Aside0.mk ((by rw [hg]; exact (below_size (by repeat (first | (with_reducible first | exact HB.out | apply below_alloc | apply pw_below_drewN | apply below_drew1) | exact HB.out))) : w.heap.size ≤ gb191)); have n3_ := Aside0.mk ((by rw [hg]; exact (below_size (by repeat (first | (with_reducible first | exact HB.out | apply below_alloc | apply pw_below_drewN | apply below_drew1) | exact HB.out))) : w.heap.size ≤ gb191)); clear HB; have HB := n0_; have BK191 := n1_; have GW191 := n2_; have GE191 := n3_; clear n0_ n1_ n2_ n3_; clear hb hbox hg; have hcz28_0 : w27.cell? ⟨gb191, 0, none⟩ = some (.int .i64 a0_0) := (blk_cell BK191.out 0).trans rfl; have hcz28_1 : w27.cell? ⟨gb191, 1, none⟩ = some (.int .u32 a0_1) := (blk_cell BK191.out 1).trans rfl; have hcz28_2 : w27.cell? ⟨gb191, 2, none⟩ = some (.int .u32 a0_2) := (blk_cell BK191.out 2).trans rfl; have hcz28_3 : w27.cell? ⟨gb191, 3, none⟩ = some (.int .i64 a0_3) := (blk_cell BK191.out 3).trans rfl; have hcz28_4 : w27.cell? ⟨gb191, 4, none⟩ = some (.int .i64 a0_4) := (blk_cell BK191.out 4).trans rfl; have hcz28_5 : w27.cell? ⟨gb191, 5, none⟩ = some (.int .i64 a0_5) := (blk_cell BK191.out 5).trans rfl; have hcz28_6 : w27.cell? ⟨gb191, 6, none⟩ = some (.slice A0_6 l0_6.length c0_6) := (blk_cell BK191.out 6).trans rfl; have hcz28_7 : w27.cell? ⟨gb191, 7, none⟩ = some (.int .u64 a0_7) := (blk_cell BK191.out 7).trans rfl; have hcz28_8 : w27.cell? ⟨gb191, 8, none⟩ = some (.slice A0_8 l0_8.length c0_8) := (blk_cell BK191.out 8).trans rfl; have hfz28_0 := blk_frozen BK191.out 0; have hfz28_1 := blk_frozen BK191.out 1; have hfz28_2 := blk_frozen BK191.out 2; have hfz28_3 := blk_frozen BK191.out 3; have hfz28_4 := blk_frozen BK191.out 4; have hfz28_5 := blk_frozen BK191.out 5; have hfz28_6 := blk_frozen BK191.out 6; have hfz28_7 := blk_frozen BK191.out 7; have hfz28_8 := blk_frozen BK191.out 8))
                        go_ret
                        exact ⟨by first | rfl | (simp [errW_none, errW_some] <;> rfl) | (simp [*, errW_none, errW_some] <;> rfl), by repeat (first | (with_reducible first | exact HB.out | apply below_alloc | apply pw_below_drewN | apply below_drew1 | refine below_set ?_ GE191.out) | exact HB.out)⟩
                      · rw [if_neg c26] at H
                        have c26b0 : decide (1024 < (l0_8.length : Int)) = false := decide_eq_false c26
                        have c26b1 : decide (1024 < l0_8.length) = false := decide_eq_false (by omega)
                        clear c26
                        by_cases c29 : (l0_8.length : Int) = 1024
                        · rw [if_pos c29] at H
                          have c29b0 : ((l0_8.length : Int) == 1024) = true := beq_iff_eq.mpr c29
                          have c29b1 : ((l0_8.length : Int) != 1024) = false := bne_eq_false_iff_eq.mpr c29
                          clear c29
                          obtain rfl := Option.some.inj H
                          go_enter Try.func21, Try.ntmps21
                          go_wp2_with (first | ((with_reducible refine gate_dst (N := 1) rfl ?_); (try (refine gate_guard (by rfl) ?_; dsimp only)); refine box_event ?hg (N := 1) ?hd (cs := #[.int .i64 a0_0, .int .u32 a0_1, .int .u32 a0_2, .int .i64 a0_3, .int .i64 a0_4, .int .i64 a0_5, .slice A0_6 l0_6.length c0_6, .int .u64 a0_7, .slice A0_8 l0_8.length c0_8]) (t := 46) ?hr ?_; (case hd => rfl); (case hg => rfl); (case hr => first | (go_simp; done) | (go_simp; rfl)); intro gb191 hg w30 hbox hb; have n0_ := Aside0.mk (below_step (by repeat (first | (with_reducible first | exact HB.out | apply below_alloc | apply pw_below_drewN | apply below_drew1) | exact HB.out)) hb); have n1_ := Aside0.mk (hbox); have n2_ := Aside0.mk ((by rw [hg]; exact (below_size (by repeat (first | (with_reducible first | exact HB.out | apply below_alloc | apply pw_below_drewN | apply below_drew1) | exact HB.out))) : w.heap.size ≤ gb191)); have n3_ := Aside0.mk ((by rw [hg]; exact (below_size (by repeat (first | (with_reducible first | exact HB.out | apply below_alloc | apply pw_below_drewN | apply below_drew1) | exact HB.out))) : w.heap.size ≤ gb191)); clear HB; have HB := n0_; have BK191 := n1_; have GW191 := n2_; have GE191 := n3_; clear n0_ n1_ n2_ n3_; clear hb hbox hg; have hcz31_0 : w30.cell? ⟨gb191, 0, none⟩ = some (.int .i64 a0_0) := (blk_cell BK191.out 0).trans rfl; have hcz31_1 : w30.cell? ⟨gb191, 1, none⟩ = some (.int .u32 a0_1) := (blk_cell BK191.out 1).trans rfl; have hcz31_2 : w30.cell? ⟨gb191, 2, none⟩ = some (.int .u32 a0_2) := (blk_cell BK191.out 2).trans rfl; have hcz31_3 : w30.cell? ⟨gb191, 3, none⟩ = some (.int .i64 a0_3) := (blk_cell BK191.out 3).trans rfl; have hcz31_4 : w30.cell? ⟨gb191, 4, none⟩ = some (.int .i64 a0_4) := (blk_cell BK191.out 4).trans rfl; have hcz31_5 : w30.cell? ⟨gb191, 5, none⟩ = some (.int .i64 a0_5) := (blk_cell BK191.out 5).trans rfl; have hcz31_6 : w30.cell? ⟨gb191, 6, none⟩ = some (.slice A0_6 l0_6.length c0_6) := (blk_cell BK191.out 6).trans rfl; have hcz31_7 : w30.cell? ⟨gb191, 7, none⟩ = some (.int .u64 a0_7) := (blk_cell BK191.out 7).trans rfl; have hcz31_8 : w30.cell? ⟨gb191, 8, none⟩ = some (.slice A0_8 l0_8.length c0_8) := (blk_cell BK191.out 8).trans rfl; have hfz31_0 := blk_frozen BK191.out 0; have hfz31_1 := blk_frozen BK191.out 1; have hfz31_2 := blk_frozen BK191.out 2; have hfz31_3 := blk_frozen BK191.out 3; have hfz31_4 := blk_frozen BK191.out 4; have hfz31_5 := blk_frozen BK191.out 5; have hfz31_6 := blk_frozen BK191.out 6; have hfz31_7 := blk_frozen BK191.out 7; have hfz31_8 := blk_frozen BK191.out 8))
                          go_ret
                          exact ⟨by first | rfl | (simp [errW_none, errW_some] <;> rfl) | (simp [*, errW_none, errW_some] <;> rfl), by repeat (first | (with_reducible first | exact HB.out | apply below_alloc | apply pw_below_drewN | apply below_drew1 | refine below_set ?_ GE191.out) | exact HB.out)⟩
                        · rw [if_neg c29] at H
                          have c29b0 : ((l0_8.length : Int) == 1024) = false := beq_eq_false_iff_ne.mpr c29
                          have c29b1 : ((l0_8.length : Int) != 1024) = true := bne_iff_ne.mpr c29
                          obtain rfl := Option.some.inj H
                          go_enter Try.func21, Try.ntmps21
                          go_wp2_with (first | ((with_reducible refine gate_dst (N := 1) rfl ?_); (try (refine gate_guard (by rfl) ?_; dsimp only)); refine box_event ?hg (N := 1) ?hd (cs := #[.int .i64 a0_0, .int .u32 a0_1, .int .u32 a0_2, .int .i64 a0_3, .int .i64 a0_4, .int .i64 a0_5, .slice A0_6 l0_6.length c0_6, .int .u64 a0_7, .slice A0_8 l0_8.length c0_8]) (t := 46) ?hr ?_; (case hd => rfl); (case hg => rfl); (case hr => first | (go_simp; done) | (go_simp; rfl)); intro gb191 hg w32 hbox hb; have n0_ := Aside0.mk (below_step (by repeat (first | (with_reducible first | exact HB.out | apply below_alloc | apply pw_below_drewN | apply below_drew1) | exact HB.out)) hb); have n1_ := Aside0.mk (hbox); have n2_ := Aside0.mk ((by rw [hg]; exact (below_size (by repeat (first | (with_reducible first | exact HB.out | apply below_alloc | apply pw_below_drewN | apply below_drew1) | exact HB.out))) : w.heap.size ≤ gb191)); have n3_ := Aside0.mk ((by rw [hg]; exact (below_size (by repeat (first | (with_reducible first | exact HB.out | apply below_alloc | apply pw_below_drewN | apply below_drew1) | exact HB.out))) : w.heap.size ≤ gb191)); clear HB; have HB := n0_; have BK191 := n1_; have GW191 := n2_; have GE191 := n3_; clear n0_ n1_ n2_ n3_; clear hb hbox hg; have hcz33_0 : w32.cell? ⟨gb191, 0, none⟩ = some (.int .i64 a0_0) := (blk_cell BK191.out 0).trans rfl; have hcz33_1 : w32.cell? ⟨gb191, 1, none⟩ = some (.int .u32 a0_1) := (blk_cell BK191.out 1).trans rfl; have hcz33_2 : w32.cell? ⟨gb191, 2, none⟩ = some (.int .u32 a0_2) := (blk_cell BK191.out 2).trans rfl; have hcz33_3 : w32.cell? ⟨gb191, 3, none⟩ = some (.int .i64 a0_3) := (blk_cell BK191.out 3).trans rfl; have hcz33_4 : w32.cell? ⟨gb191, 4, none⟩ = some (.int .i64 a0_4) := (blk_cell BK191.out 4).trans rfl; have hcz33_5 : w32.cell? ⟨gb191, 5, none⟩ = some (.int .i64 a0_5) := (blk_cell BK191.out 5).trans rfl; have hcz33_6 : w32.cell? ⟨gb191, 6, none⟩ = some (.slice A0_6 l0_6.length c0_6) := (blk_cell BK191.out 6).trans rfl; have hcz33_7 : w32.cell? ⟨gb191, 7, none⟩ = some (.int .u64 a0_7) := (blk_cell BK191.out 7).trans rfl; have hcz33_8 : w32.cell? ⟨gb191, 8, none⟩ = some (.slice A0_8 l0_8.length c0_8) := (blk_cell BK191.out 8).trans rfl; have hfz33_0 := blk_frozen BK191.out 0; have hfz33_1 := blk_frozen BK191.out 1; have hfz33_2 := blk_frozen BK191.out 2; have hfz33_3 := blk_frozen BK191.out 3; have hfz33_4 := blk_frozen BK191.out 4; have hfz33_5 := blk_frozen BK191.out 5; have hfz33_6 := blk_frozen BK191.out 6; have hfz33_7 := blk_frozen BK191.out 7; have hfz33_8 := blk_frozen BK191.out 8))
                          go_ret
                          exact ⟨by first | rfl | (simp [errW_none, errW_some] <;> rfl) | (simp [*, errW_none, errW_some] <;> rfl), by repeat (first | (with_reducible first | exact HB.out | apply below_alloc | apply pw_below_drewN | apply below_drew1 | refine below_set ?_ GE191.out) | exact HB.out)⟩
                  · rw [if_neg c22] at H
                    have c22b0 : (a0_7 == 0) = false := beq_eq_false_iff_ne.mpr c22
                    have c22b1 : (a0_7 != 0) = true := bne_iff_ne.mpr c22
                    obtain rfl := Option.some.inj H
                    go_enter Try.func21, Try.ntmps21
                    go_wp2_with (first | ((with_reducible refine gate_dst (N := 1) rfl ?_); (try (refine gate_guard (by rfl) ?_; dsimp only)); refine box_event ?hg (N := 1) ?hd (cs := #[.int .i64 a0_0, .int .u32 a0_1, .int .u32 a0_2, .int .i64 a0_3, .int .i64 a0_4, .int .i64 a0_5, .slice A0_6 l0_6.length c0_6, .int .u64 a0_7, .slice A0_8 l0_8.length c0_8]) (t := 46) ?hr ?_; (case hd => rfl); (case hg => rfl); (case hr => first | (go_simp; done) | (go_simp; rfl)); intro gb191 hg w34 hbox hb; have n0_ := Aside0.mk (below_step (by repeat (first | (with_reducible first | exact HB.out | apply below_alloc | apply pw_below_drewN | apply below_drew1) | exact HB.out)) hb); have n1_ := Aside0.mk (hbox); have n2_ := Aside0.mk ((by rw [hg]; exact (below_size (by repeat (first | (with_reducible first | exact HB.out | apply below_alloc | apply pw_below_drewN | apply below_drew1) | exact HB.out))) : w.heap.size ≤ gb191)); have n3_ := Aside0.mk ((by rw [hg]; exact (below_size (by repeat (first | (with_reducible first | exact HB.out | apply below_alloc | apply pw_below_drewN | apply below_drew1) | exact HB.out))) : w.heap.size ≤ gb191)); clear HB; have HB := n0_; have BK191 := n1_; have GW191 := n2_; have GE191 := n3_; clear n0_ n1_ n2_ n3_; clear hb hbox hg; have hcz35_0 : w34.cell? ⟨gb191, 0, none⟩ = some (.int .i64 a0_0) := (blk_cell BK191.out 0).trans rfl; have hcz35_1 : w34.cell? ⟨gb191, 1, none⟩ = some (.int .u32 a0_1) := (blk_cell BK191.out 1).trans rfl; have hcz35_2 : w34.cell? ⟨gb191, 2, none⟩ = some (.int .u32 a0_2) := (blk_cell BK191.out 2).trans rfl; have hcz35_3 : w34.cell? ⟨gb191, 3, none⟩ = some (.int .i64 a0_3) := (blk_cell BK191.out 3).trans rfl; have hcz35_4 : w34.cell? ⟨gb191, 4, none⟩ = some (.int .i64 a0_4) := (blk_cell BK191.out 4).trans rfl; have hcz35_5 : w34.cell? ⟨gb191, 5, none⟩ = some (.int .i64 a0_5) := (blk_cell BK191.out 5).trans rfl; have hcz35_6 : w34.cell? ⟨gb191, 6, none⟩ = some (.slice A0_6 l0_6.length c0_6) := (blk_cell BK191.out 6).trans rfl; have hcz35_7 : w34.cell? ⟨gb191, 7, none⟩ = some (.int .u64 a0_7) := (blk_cell BK191.out 7).trans rfl; have hcz35_8 : w34.cell? ⟨gb191, 8, none⟩ = some (.slice A0_8 l0_8.length c0_8) := (blk_cell BK191.out 8).trans rfl; have hfz35_0 := blk_frozen BK191.out 0; have hfz35_1 := blk_frozen BK191.out 1; have hfz35_2 := blk_frozen BK191.out 2; have hfz35_3 := blk_frozen BK191.out 3; have hfz35_4 := blk_frozen BK191.out 4; have hfz35_5 := blk_frozen BK191.out 5; have hfz35_6 := blk_frozen BK191.out 6; have hfz35_7 := blk_frozen BK191.out 7; have hfz35_8 := blk_frozen BK191.out 8))
                    go_ret
                    exact ⟨by first | rfl | (simp [errW_none, errW_some] <;> rfl) | (simp [*, errW_none, errW_some] <;> rfl), by repeat (first | (with_reducible first | exact HB.out | apply below_alloc | apply pw_below_drewN | apply below_drew1 | refine below_set ?_ GE191.out) | exact HB.out)⟩
                · rw [if_neg c21] at H
                  have c21b0 : ((l0_6.length : Int) == 16) = false := beq_eq_false_iff_ne.mpr c21
                  have c21b1 : ((l0_6.length : Int) != 16) = true := bne_iff_ne.mpr c21
                  obtain rfl := Option.some.inj H
                  go_enter Try.func21, Try.ntmps21
                  go_wp2_with (first | ((with_reducible refine gate_dst (N := 1) rfl ?_); (try (refine gate_guard (by rfl) ?_; dsimp only)); refine box_event ?hg (N := 1) ?hd (cs := #[.int .i64 a0_0, .int .u32 a0_1, .int .u32 a0_2, .int .i64 a0_3, .int .i64 a0_4, .int .i64 a0_5, .slice A0_6 l0_6.length c0_6, .int .u64 a0_7, .slice A0_8 l0_8.length c0_8]) (t := 46) ?hr ?_; (case hd => rfl); (case hg => rfl); (case hr => first | (go_simp; done) | (go_simp; rfl)); intro gb191 hg w36 hbox hb; have n0_ := Aside0.mk (below_step (by repeat (first | (with_reducible first | exact HB.out | apply below_alloc | apply pw_below_drewN | apply below_drew1) | exact HB.out)) hb); have n1_ := Aside0.mk (hbox); have n2_ := Aside0.mk ((by rw [hg]; exact (below_size (by repeat (first | (with_reducible first | exact HB.out | apply below_alloc | apply pw_below_drewN | apply below_drew1) | exact HB.out))) : w.heap.size ≤ gb191)); have n3_ := Aside0.mk ((by rw [hg]; exact (below_size (by repeat (first | (with_reducible first | exact HB.out | apply below_alloc | apply pw_below_drewN | apply below_drew1) | exact HB.out))) : w.heap.size ≤ gb191)); clear HB; have HB := n0_; have BK191 := n1_; have GW191 := n2_; have GE191 := n3_; clear n0_ n1_ n2_ n3_; clear hb hbox hg; have hcz37_0 : w36.cell? ⟨gb191, 0, none⟩ = some (.int .i64 a0_0) := (blk_cell BK191.out 0).trans rfl; have hcz37_1 : w36.cell? ⟨gb191, 1, none⟩ = some (.int .u32 a0_1) := (blk_cell BK191.out 1).trans rfl; have hcz37_2 : w36.cell? ⟨gb191, 2, none⟩ = some (.int .u32 a0_2) := (blk_cell BK191.out 2).trans rfl; have hcz37_3 : w36.cell? ⟨gb191, 3, none⟩ = some (.int .i64 a0_3) := (blk_cell BK191.out 3).trans rfl; have hcz37_4 : w36.cell? ⟨gb191, 4, none⟩ = some (.int .i64 a0_4) := (blk_cell BK191.out 4).trans rfl; have hcz37_5 : w36.cell? ⟨gb191, 5, none⟩ = some (.int .i64 a0_5) := (blk_cell BK191.out 5).trans rfl; have hcz37_6 : w36.cell? ⟨gb191, 6, none⟩ = some (.slice A0_6 l0_6.length c0_6) := (blk_cell BK191.out 6).trans rfl; have hcz37_7 : w36.cell? ⟨gb191, 7, none⟩ = some (.int .u64 a0_7) := (blk_cell BK191.out 7).trans rfl; have hcz37_8 : w36.cell? ⟨gb191, 8, none⟩ = some (.slice A0_8 l0_8.length c0_8) := (blk_cell BK191.out 8).trans rfl; have hfz37_0 := blk_frozen BK191.out 0; have hfz37_1 := blk_frozen BK191.out 1; have hfz37_2 := blk_frozen BK191.out 2; have hfz37_3 := blk_frozen BK191.out 3; have hfz37_4 := blk_frozen BK191.out 4; have hfz37_5 := blk_frozen BK191.out 5; have hfz37_6 := blk_frozen BK191.out 6; have hfz37_7 := blk_frozen BK191.out 7; have hfz37_8 := blk_frozen BK191.out 8))
                  go_ret
                  exact ⟨by first | rfl | (simp [errW_none, errW_some] <;> rfl) | (simp [*, errW_none, errW_some] <;> rfl), by repeat (first | (with_reducible first | exact HB.out | apply below_alloc | apply pw_below_drewN | apply below_drew1 | refine below_set ?_ GE191.out) | exact HB.out)⟩
  · rw [if_neg c2] at H
    have c2b0 : (a0_0 == 1) = false := beq_eq_false_iff_ne.mpr c2
    have c2b1 : (a0_0 != 1) = true := bne_iff_ne.mpr c2
    have HC38 := Aside0.mk H
    clear H
    go_enter Try.func21, Try.ntmps21
    go_upto_region 6 with (first | ((with_reducible refine gate_dst (N := 1) rfl ?_); (try (refine gate_guard (by rfl) ?_; dsimp only)); refine box_event ?hg (N := 1) ?hd (cs := #[.int .i64 a0_0, .int .u32 a0_1, .int .u32 a0_2, .int .i64 a0_3, .int .i64 a0_4, .int .i64 a0_5, .slice A0_6 l0_6.length c0_6, .int .u64 a0_7, .slice A0_8 l0_8.length c0_8]) (t := 46) ?hr ?_; (case hd => rfl); (case hg => rfl); (case hr => first | (go_simp; done) | (go_simp; rfl)); intro gb191 hg w39 hbox hb; have n0_ := Aside0.mk (below_step (by repeat (first | (with_reducible first | exact HB.out | apply below_alloc | apply pw_below_drewN | apply below_drew1) | exact HB.out)) hb); have n1_ := Aside0.mk (hbox); have n2_ := Aside0.mk ((by rw [hg]; exact (below_size (by repeat (first | (with_reducible first | exact HB.out | apply below_alloc | apply pw_below_drewN | apply below_drew1) | exact HB.out))) : w.heap.size ≤ gb191)); have n3_ := Aside0.mk ((by rw [hg]; exact (below_size (by repeat (first | (with_reducible first | exact HB.out | apply below_alloc | apply pw_below_drewN | apply below_drew1) | exact HB.out))) : w.heap.size ≤ gb191)); clear HB; have HB := n0_; have BK191 := n1_; have GW191 := n2_; have GE191 := n3_; clear n0_ n1_ n2_ n3_; clear hb hbox hg; have hcz40_0 : w39.cell? ⟨gb191, 0, none⟩ = some (.int .i64 a0_0) := (blk_cell BK191.out 0).trans rfl; have hcz40_1 : w39.cell? ⟨gb191, 1, none⟩ = some (.int .u32 a0_1) := (blk_cell BK191.out 1).trans rfl; have hcz40_2 : w39.cell? ⟨gb191, 2, none⟩ = some (.int .u32 a0_2) := (blk_cell BK191.out 2).trans rfl; have hcz40_3 : w39.cell? ⟨gb191, 3, none⟩ = some (.int .i64 a0_3) := (blk_cell BK191.out 3).trans rfl; have hcz40_4 : w39.cell? ⟨gb191, 4, none⟩ = some (.int .i64 a0_4) := (blk_cell BK191.out 4).trans rfl; have hcz40_5 : w39.cell? ⟨gb191, 5, none⟩ = some (.int .i64 a0_5) := (blk_cell BK191.out 5).trans rfl; have hcz40_6 : w39.cell? ⟨gb191, 6, none⟩ = some (.slice A0_6 l0_6.length c0_6) := (blk_cell BK191.out 6).trans rfl; have hcz40_7 : w39.cell? ⟨gb191, 7, none⟩ = some (.int .u64 a0_7) := (blk_cell BK191.out 7).trans rfl; have hcz40_8 : w39.cell? ⟨gb191, 8, none⟩ = some (.slice A0_8 l0_8.length c0_8) := (blk_cell BK191.out 8).trans rfl; have hfz40_0 := blk_frozen BK191.out 0; have hfz40_1 := blk_frozen BK191.out 1; have hfz40_2 := blk_frozen BK191.out 2; have hfz40_3 := blk_frozen BK191.out 3; have hfz40_4 := blk_frozen BK191.out 4; have hfz40_5 := blk_frozen BK191.out 5; have hfz40_6 := blk_frozen BK191.out 6; have hfz40_7 := blk_frozen BK191.out 7; have hfz40_8 := blk_frozen BK191.out 8))
    (try simp only [Act.put, List.setIfInBounds_toArray, List.set_cons_zero, List.set_cons_succ])
    go_cut [86] (fun v86 wc => ∃ (kq : Nat) (x86_37 : Bool), v86 = .bool x86_37 ∧ Aside0 (redanref18_May.j0 kq (l0_8.length : Int) x86_37 a0_0 a0_1 a0_2 a0_3 a0_4 a0_5 l0_6 a0_7 l0_8 = some r) ∧ Aside0 (kq ≤ k) ∧ Aside0 (wc.heap[gb191]? = some (.cells #[.int .i64 a0_0, .int .u32 a0_1, .int .u32 a0_2, .int .i64 a0_3, .int .i64 a0_4, .int .i64 a0_5, (.slice A0_6 l0_6.length c0_6), .int .u64 a0_7, (.slice A0_8 l0_8.length c0_8)] 46 (0, 0))) ∧ Aside0 (Below w.heap.size w wc))
    case first =>
      have H := HC38.out
      clear HC38
      by_cases c41 : a0_1 = 0
      · rw [if_pos c41] at H
        have c41b0 : (a0_1 == 0) = true := beq_iff_eq.mpr c41
        have c41b1 : (a0_1 != 0) = false := bne_eq_false_iff_eq.mpr c41
        clear c41
        (first | rw [c41b0] | (simp only [i64_w, i32_w]; rw [c41b0]) | skip)
        by_cases c42 : a0_3 = 0
        · rw [if_pos c42] at H
          have c42b0 : (a0_3 == 0) = true := beq_iff_eq.mpr c42
          have c42b1 : (a0_3 != 0) = false := bne_eq_false_iff_eq.mpr c42
          clear c42
          by_cases c43 : a0_4 = 0
          · rw [if_pos c43] at H
            have c43b0 : (a0_4 == 0) = true := beq_iff_eq.mpr c43
            have c43b1 : (a0_4 != 0) = false := bne_eq_false_iff_eq.mpr c43
            clear c43
            have H' := Aside0.mk H
            clear H
            have hcz44_0 : w39.cell? ⟨gb191, 0, none⟩ = some (.int .i64 a0_0) := (blk_cell BK191.out 0).trans rfl
            have hcz44_1 : w39.cell? ⟨gb191, 1, none⟩ = some (.int .u32 a0_1) := (blk_cell BK191.out 1).trans rfl
            have hcz44_2 : w39.cell? ⟨gb191, 2, none⟩ = some (.int .u32 a0_2) := (blk_cell BK191.out 2).trans rfl
            have hcz44_3 : w39.cell? ⟨gb191, 3, none⟩ = some (.int .i64 a0_3) := (blk_cell BK191.out 3).trans rfl
            have hcz44_4 : w39.cell? ⟨gb191, 4, none⟩ = some (.int .i64 a0_4) := (blk_cell BK191.out 4).trans rfl
            have hcz44_5 : w39.cell? ⟨gb191, 5, none⟩ = some (.int .i64 a0_5) := (blk_cell BK191.out 5).trans rfl
            have hcz44_6 : w39.cell? ⟨gb191, 6, none⟩ = some (.slice A0_6 l0_6.length c0_6) := (blk_cell BK191.out 6).trans rfl
            have hcz44_7 : w39.cell? ⟨gb191, 7, none⟩ = some (.int .u64 a0_7) := (blk_cell BK191.out 7).trans rfl
            have hcz44_8 : w39.cell? ⟨gb191, 8, none⟩ = some (.slice A0_8 l0_8.length c0_8) := (blk_cell BK191.out 8).trans rfl
            have hfz44_0 := blk_frozen BK191.out 0
            have hfz44_1 := blk_frozen BK191.out 1
            have hfz44_2 := blk_frozen BK191.out 2
            have hfz44_3 := blk_frozen BK191.out 3
            have hfz44_4 := blk_frozen BK191.out 4
            have hfz44_5 := blk_frozen BK191.out 5
            have hfz44_6 := blk_frozen BK191.out 6
            have hfz44_7 := blk_frozen BK191.out 7
            have hfz44_8 := blk_frozen BK191.out 8
            go_wp2
            go_meet
            case rel => exact ⟨_, ((a0_5 != 0)), (by first | rfl | (simp; done) | (simp [*]; done)), H', ⟨by first | omega | exact Nat.le_refl _⟩, ⟨by (with_reducible repeat (first | refine blk_drewN ?_ _ | refine blk_drew ?_ | refine blk_alloc ?_ _)); exact BK191.out⟩, ⟨by repeat (first | (with_reducible first | exact HB.out | apply below_alloc | apply pw_below_drewN | apply below_drew1 | refine below_set ?_ GE191.out) | exact HB.out)⟩⟩
          · rw [if_neg c43] at H
            have c43b0 : (a0_4 == 0) = false := beq_eq_false_iff_ne.mpr c43
            have c43b1 : (a0_4 != 0) = true := bne_iff_ne.mpr c43
            have H' := Aside0.mk H
            clear H
            have hcz45_0 : w39.cell? ⟨gb191, 0, none⟩ = some (.int .i64 a0_0) := (blk_cell BK191.out 0).trans rfl
            have hcz45_1 : w39.cell? ⟨gb191, 1, none⟩ = some (.int .u32 a0_1) := (blk_cell BK191.out 1).trans rfl
            have hcz45_2 : w39.cell? ⟨gb191, 2, none⟩ = some (.int .u32 a0_2) := (blk_cell BK191.out 2).trans rfl
            have hcz45_3 : w39.cell? ⟨gb191, 3, none⟩ = some (.int .i64 a0_3) := (blk_cell BK191.out 3).trans rfl
            have hcz45_4 : w39.cell? ⟨gb191, 4, none⟩ = some (.int .i64 a0_4) := (blk_cell BK191.out 4).trans rfl
            have hcz45_5 : w39.cell? ⟨gb191, 5, none⟩ = some (.int .i64 a0_5) := (blk_cell BK191.out 5).trans rfl
            have hcz45_6 : w39.cell? ⟨gb191, 6, none⟩ = some (.slice A0_6 l0_6.length c0_6) := (blk_cell BK191.out 6).trans rfl
            have hcz45_7 : w39.cell? ⟨gb191, 7, none⟩ = some (.int .u64 a0_7) := (blk_cell BK191.out 7).trans rfl
            have hcz45_8 : w39.cell? ⟨gb191, 8, none⟩ = some (.slice A0_8 l0_8.length c0_8) := (blk_cell BK191.out 8).trans rfl
            have hfz45_0 := blk_frozen BK191.out 0
            have hfz45_1 := blk_frozen BK191.out 1
            have hfz45_2 := blk_frozen BK191.out 2
            have hfz45_3 := blk_frozen BK191.out 3
            have hfz45_4 := blk_frozen BK191.out 4
            have hfz45_5 := blk_frozen BK191.out 5
            have hfz45_6 := blk_frozen BK191.out 6
            have hfz45_7 := blk_frozen BK191.out 7
            have hfz45_8 := blk_frozen BK191.out 8
            go_wp2
            go_meet
            case rel => exact ⟨_, (true), (by first | rfl | (simp; done) | (simp [*]; done)), H', ⟨by first | omega | exact Nat.le_refl _⟩, ⟨by (with_reducible repeat (first | refine blk_drewN ?_ _ | refine blk_drew ?_ | refine blk_alloc ?_ _)); exact BK191.out⟩, ⟨by repeat (first | (with_reducible first | exact HB.out | apply below_alloc | apply pw_below_drewN | apply below_drew1 | refine below_set ?_ GE191.out) | exact HB.out)⟩⟩
        · rw [if_neg c42] at H
          have c42b0 : (a0_3 == 0) = false := beq_eq_false_iff_ne.mpr c42
          have c42b1 : (a0_3 != 0) = true := bne_iff_ne.mpr c42
          have H' := Aside0.mk H
          clear H
          have hcz46_0 : w39.cell? ⟨gb191, 0, none⟩ = some (.int .i64 a0_0) := (blk_cell BK191.out 0).trans rfl
          have hcz46_1 : w39.cell? ⟨gb191, 1, none⟩ = some (.int .u32 a0_1) := (blk_cell BK191.out 1).trans rfl
          have hcz46_2 : w39.cell? ⟨gb191, 2, none⟩ = some (.int .u32 a0_2) := (blk_cell BK191.out 2).trans rfl
          have hcz46_3 : w39.cell? ⟨gb191, 3, none⟩ = some (.int .i64 a0_3) := (blk_cell BK191.out 3).trans rfl
          have hcz46_4 : w39.cell? ⟨gb191, 4, none⟩ = some (.int .i64 a0_4) := (blk_cell BK191.out 4).trans rfl
          have hcz46_5 : w39.cell? ⟨gb191, 5, none⟩ = some (.int .i64 a0_5) := (blk_cell BK191.out 5).trans rfl
          have hcz46_6 : w39.cell? ⟨gb191, 6, none⟩ = some (.slice A0_6 l0_6.length c0_6) := (blk_cell BK191.out 6).trans rfl
          have hcz46_7 : w39.cell? ⟨gb191, 7, none⟩ = some (.int .u64 a0_7) := (blk_cell BK191.out 7).trans rfl
          have hcz46_8 : w39.cell? ⟨gb191, 8, none⟩ = some (.slice A0_8 l0_8.length c0_8) := (blk_cell BK191.out 8).trans rfl
          have hfz46_0 := blk_frozen BK191.out 0
          have hfz46_1 := blk_frozen BK191.out 1
          have hfz46_2 := blk_frozen BK191.out 2
          have hfz46_3 := blk_frozen BK191.out 3
          have hfz46_4 := blk_frozen BK191.out 4
          have hfz46_5 := blk_frozen BK191.out 5
          have hfz46_6 := blk_frozen BK191.out 6
          have hfz46_7 := blk_frozen BK191.out 7
          have hfz46_8 := blk_frozen BK191.out 8
          go_wp2
          go_meet
          case rel => exact ⟨_, (true), (by first | rfl | (simp; done) | (simp [*]; done)), H', ⟨by first | omega | exact Nat.le_refl _⟩, ⟨by (with_reducible repeat (first | refine blk_drewN ?_ _ | refine blk_drew ?_ | refine blk_alloc ?_ _)); exact BK191.out⟩, ⟨by repeat (first | (with_reducible first | exact HB.out | apply below_alloc | apply pw_below_drewN | apply below_drew1 | refine below_set ?_ GE191.out) | exact HB.out)⟩⟩
      · rw [if_neg c41] at H
        have c41b0 : (a0_1 == 0) = false := beq_eq_false_iff_ne.mpr c41
        have c41b1 : (a0_1 != 0) = true := bne_iff_ne.mpr c41
        (first | rw [c41b0] | (simp only [i64_w, i32_w]; rw [c41b0]) | skip)
        have H' := Aside0.mk H
        clear H
        have hcz47_0 : w39.cell? ⟨gb191, 0, none⟩ = some (.int .i64 a0_0) := (blk_cell BK191.out 0).trans rfl
        have hcz47_1 : w39.cell? ⟨gb191, 1, none⟩ = some (.int .u32 a0_1) := (blk_cell BK191.out 1).trans rfl
        have hcz47_2 : w39.cell? ⟨gb191, 2, none⟩ = some (.int .u32 a0_2) := (blk_cell BK191.out 2).trans rfl
        have hcz47_3 : w39.cell? ⟨gb191, 3, none⟩ = some (.int .i64 a0_3) := (blk_cell BK191.out 3).trans rfl
        have hcz47_4 : w39.cell? ⟨gb191, 4, none⟩ = some (.int .i64 a0_4) := (blk_cell BK191.out 4).trans rfl
        have hcz47_5 : w39.cell? ⟨gb191, 5, none⟩ = some (.int .i64 a0_5) := (blk_cell BK191.out 5).trans rfl
        have hcz47_6 : w39.cell? ⟨gb191, 6, none⟩ = some (.slice A0_6 l0_6.length c0_6) := (blk_cell BK191.out 6).trans rfl
        have hcz47_7 : w39.cell? ⟨gb191, 7, none⟩ = some (.int .u64 a0_7) := (blk_cell BK191.out 7).trans rfl
        have hcz47_8 : w39.cell? ⟨gb191, 8, none⟩ = some (.slice A0_8 l0_8.length c0_8) := (blk_cell BK191.out 8).trans rfl
        have hfz47_0 := blk_frozen BK191.out 0
        have hfz47_1 := blk_frozen BK191.out 1
        have hfz47_2 := blk_frozen BK191.out 2
        have hfz47_3 := blk_frozen BK191.out 3
        have hfz47_4 := blk_frozen BK191.out 4
        have hfz47_5 := blk_frozen BK191.out 5
        have hfz47_6 := blk_frozen BK191.out 6
        have hfz47_7 := blk_frozen BK191.out 7
        have hfz47_8 := blk_frozen BK191.out 8
        go_wp2
        go_meet
        case rel => exact ⟨_, (true), (by first | rfl | (simp; done) | (simp [*]; done)), H', ⟨by first | omega | exact Nat.le_refl _⟩, ⟨by (with_reducible repeat (first | refine blk_drewN ?_ _ | refine blk_drew ?_ | refine blk_alloc ?_ _)); exact BK191.out⟩, ⟨by repeat (first | (with_reducible first | exact HB.out | apply below_alloc | apply pw_below_drewN | apply below_drew1 | refine below_set ?_ GE191.out) | exact HB.out)⟩⟩
    case rest =>
      clear HC38
      try clear c1
      try clear c2
      try clear c2b0
      try clear c2b1
      try clear p2
      try clear c3
      try clear c3b0
      try clear c4
      try clear c6
      try clear c6b0
      try clear p6
      try clear c9
      try clear c9b0
      try clear c12
      try clear c12b0
      try clear c15
      try clear c15b0
      try clear c18
      try clear c18b0
      try clear c21
      try clear c21b0
      try clear c21b1
      try clear c22
      try clear c22b0
      try clear c22b1
      try clear c23
      try clear c23b0
      try clear c23b1
      try clear c26
      try clear c26b0
      try clear c26b1
      try clear c29
      try clear c29b0
      try clear c29b1
      try clear c41
      try clear c41b0
      try clear c41b1
      try clear c42
      try clear c42b0
      try clear c42b1
      try clear c43
      try clear c43b0
      try clear c43b1
      try clear hcz11_0
      try clear hcz11_1
      try clear hcz11_2
      try clear hcz11_3
      try clear hcz11_4
      try clear hcz11_5
      try clear hcz11_6
      try clear hcz11_7
      try clear hcz11_8
      try clear hcz14_0
      try clear hcz14_1
      try clear hcz14_2
      try clear hcz14_3
      try clear hcz14_4
      try clear hcz14_5
      try clear hcz14_6
      try clear hcz14_7
      try clear hcz14_8
      try clear hcz17_0
      try clear hcz17_1
      try clear hcz17_2
      try clear hcz17_3
      try clear hcz17_4
      try clear hcz17_5
      try clear hcz17_6
      try clear hcz17_7
      try clear hcz17_8
      try clear hcz20_0
      try clear hcz20_1
      try clear hcz20_2
      try clear hcz20_3
      try clear hcz20_4
      try clear hcz20_5
      try clear hcz20_6
      try clear hcz20_7
      try clear hcz20_8
      try clear hcz25_0
      try clear hcz25_1
      try clear hcz25_2
      try clear hcz25_3
      try clear hcz25_4
      try clear hcz25_5
      try clear hcz25_6
      try clear hcz25_7
      try clear hcz25_8
      try clear hcz28_0
      try clear hcz28_1
      try clear hcz28_2
      try clear hcz28_3
      try clear hcz28_4
      try clear hcz28_5
      try clear hcz28_6
      try clear hcz28_7
      try clear hcz28_8
      try clear hcz31_0
      try clear hcz31_1
      try clear hcz31_2
      try clear hcz31_3
      try clear hcz31_4
      try clear hcz31_5
      try clear hcz31_6
      try clear hcz31_7
      try clear hcz31_8
      try clear hcz33_0
      try clear hcz33_1
      try clear hcz33_2
      try clear hcz33_3
      try clear hcz33_4
      try clear hcz33_5
      try clear hcz33_6
      try clear hcz33_7
      try clear hcz33_8
      try clear hcz35_0
      try clear hcz35_1
      try clear hcz35_2
      try clear hcz35_3
      try clear hcz35_4
      try clear hcz35_5
      try clear hcz35_6
      try clear hcz35_7
      try clear hcz35_8
      try clear hcz37_0
      try clear hcz37_1
      try clear hcz37_2
      try clear hcz37_3
      try clear hcz37_4
      try clear hcz37_5
      try clear hcz37_6
      try clear hcz37_7
      try clear hcz37_8
      try clear hcz40_0
      try clear hcz40_1
      try clear hcz40_2
      try clear hcz40_3
      try clear hcz40_4
      try clear hcz40_5
      try clear hcz40_6
      try clear hcz40_7
      try clear hcz40_8
      try clear hcz44_0
      try clear hcz44_1
      try clear hcz44_2
      try clear hcz44_3
      try clear hcz44_4
      try clear hcz44_5
      try clear hcz44_6
      try clear hcz44_7
      try clear hcz44_8
      try clear hcz45_0
      try clear hcz45_1
      try clear hcz45_2
      try clear hcz45_3
      try clear hcz45_4
      try clear hcz45_5
      try clear hcz45_6
      try clear hcz45_7
      try clear hcz45_8
      try clear hcz46_0
      try clear hcz46_1
      try clear hcz46_2
      try clear hcz46_3
      try clear hcz46_4
      try clear hcz46_5
      try clear hcz46_6
      try clear hcz46_7
      try clear hcz46_8
      try clear hcz47_0
      try clear hcz47_1
      try clear hcz47_2
      try clear hcz47_3
      try clear hcz47_4
      try clear hcz47_5
      try clear hcz47_6
      try clear hcz47_7
      try clear hcz47_8
      try clear hcz5_0
      try clear hcz5_1
      try clear hcz5_2
      try clear hcz5_3
      try clear hcz5_4
      try clear hcz5_5
      try clear hcz5_6
      try clear hcz5_7
      try clear hcz5_8
      try clear hcz8_0
      try clear hcz8_1
      try clear hcz8_2
      try clear hcz8_3
      try clear hcz8_4
      try clear hcz8_5
      try clear hcz8_6
      try clear hcz8_7
      try clear hcz8_8
      try clear hfz11_0
      try clear hfz11_1
      try clear hfz11_2
      try clear hfz11_3
      try clear hfz11_4
      try clear hfz11_5
      try clear hfz11_6
      try clear hfz11_7
      try clear hfz11_8
      try clear hfz14_0
      try clear hfz14_1
      try clear hfz14_2
      try clear hfz14_3
      try clear hfz14_4
      try clear hfz14_5
      try clear hfz14_6
      try clear hfz14_7
      try clear hfz14_8
      try clear hfz17_0
      try clear hfz17_1
      try clear hfz17_2
      try clear hfz17_3
      try clear hfz17_4
      try clear hfz17_5
      try clear hfz17_6
      try clear hfz17_7
      try clear hfz17_8
      try clear hfz20_0
      try clear hfz20_1
      try clear hfz20_2
      try clear hfz20_3
      try clear hfz20_4
      try clear hfz20_5
      try clear hfz20_6
      try clear hfz20_7
      try clear hfz20_8
      try clear hfz25_0
      try clear hfz25_1
      try clear hfz25_2
      try clear hfz25_3
      try clear hfz25_4
      try clear hfz25_5
      try clear hfz25_6
      try clear hfz25_7
      try clear hfz25_8
      try clear hfz28_0
      try clear hfz28_1
      try clear hfz28_2
      try clear hfz28_3
      try clear hfz28_4
      try clear hfz28_5
      try clear hfz28_6
      try clear hfz28_7
      try clear hfz28_8
      try clear hfz31_0
      try clear hfz31_1
      try clear hfz31_2
      try clear hfz31_3
      try clear hfz31_4
      try clear hfz31_5
      try clear hfz31_6
      try clear hfz31_7
      try clear hfz31_8
      try clear hfz33_0
      try clear hfz33_1
      try clear hfz33_2
      try clear hfz33_3
      try clear hfz33_4
      try clear hfz33_5
      try clear hfz33_6
      try clear hfz33_7
      try clear hfz33_8
      try clear hfz35_0
      try clear hfz35_1
      try clear hfz35_2
      try clear hfz35_3
      try clear hfz35_4
      try clear hfz35_5
      try clear hfz35_6
      try clear hfz35_7
      try clear hfz35_8
      try clear hfz37_0
      try clear hfz37_1
      try clear hfz37_2
      try clear hfz37_3
      try clear hfz37_4
      try clear hfz37_5
      try clear hfz37_6
      try clear hfz37_7
      try clear hfz37_8
      try clear hfz40_0
      try clear hfz40_1
      try clear hfz40_2
      try clear hfz40_3
      try clear hfz40_4
      try clear hfz40_5
      try clear hfz40_6
      try clear hfz40_7
      try clear hfz40_8
      try clear hfz44_0
      try clear hfz44_1
      try clear hfz44_2
      try clear hfz44_3
      try clear hfz44_4
      try clear hfz44_5
      try clear hfz44_6
      try clear hfz44_7
      try clear hfz44_8
      try clear hfz45_0
      try clear hfz45_1
      try clear hfz45_2
      try clear hfz45_3
      try clear hfz45_4
      try clear hfz45_5
      try clear hfz45_6
      try clear hfz45_7
      try clear hfz45_8
      try clear hfz46_0
      try clear hfz46_1
      try clear hfz46_2
      try clear hfz46_3
      try clear hfz46_4
      try clear hfz46_5
      try clear hfz46_6
      try clear hfz46_7
      try clear hfz46_8
      try clear hfz47_0
      try clear hfz47_1
      try clear hfz47_2
      try clear hfz47_3
      try clear hfz47_4
      try clear hfz47_5
      try clear hfz47_6
      try clear hfz47_7
      try clear hfz47_8
      try clear hfz5_0
      try clear hfz5_1
      try clear hfz5_2
      try clear hfz5_3
      try clear hfz5_4
      try clear hfz5_5
      try clear hfz5_6
      try clear hfz5_7
      try clear hfz5_8
      try clear hfz8_0
      try clear hfz8_1
      try clear hfz8_2
      try clear hfz8_3
      try clear hfz8_4
      try clear hfz8_5
      try clear hfz8_6
      try clear hfz8_7
      try clear hfz8_8
      obtain ⟨kq, x86_37, rfl, HA, HJ37, BK191, HB⟩ := hcut
      cases kq with
      | zero => exact absurd HA.out (by simp [redanref18_May.j0])
      | succ kj37 =>
        have H := HA.out
        clear HA
        simp only [redanref18_May.j0] at H
        by_cases c48 : x86_37 = true
        · subst c48
          have H1 : (some false) = some r := by rw [if_pos rfl] at H; exact H
          clear H
          have H := H1
          clear H1
          obtain rfl := Option.some.inj H
          go_wp2
          go_ret
          exact ⟨by first | rfl | (simp [errW_none, errW_some] <;> rfl) | (simp [*, errW_none, errW_some] <;> rfl), by repeat (first | (with_reducible first | exact HB.out | apply below_alloc | apply pw_below_drewN | apply below_drew1 | refine below_set ?_ GE191.out) | exact HB.out)⟩
        · replace c48 := Bool.eq_false_iff.mpr c48
          subst c48
          have H1 : (if a0_0 = 2 then (if (l0_6.length : Int) = 16 then (if a0_7 = 0 then (some ((l0_8.length : Int) == 0)) else (some false)) else (some false)) else (if a0_0 = 3 then (if (l0_6.length : Int) = 0 then (if (l0_8.length : Int) ≥ 16 then (some (decide ((l0_8.length : Int) ≤ 1187))) else (some false)) else (some false)) else (if a0_0 = 4 then (if (l0_6.length : Int) = 0 then (some ((l0_8.length : Int) == 16)) else (some false)) else (some false)))) = some r := by rw [if_neg (show ¬ (false = true) by decide)] at H; exact H
          clear H
          have H := H1
          clear H1
          by_cases c49 : a0_0 = 2
          · rw [if_pos c49] at H
            have c49b0 : (a0_0 == 2) = true := beq_iff_eq.mpr c49
            have c49b1 : (a0_0 != 2) = false := bne_eq_false_iff_eq.mpr c49
            clear c49
            by_cases c50 : (l0_6.length : Int) = 16
            · rw [if_pos c50] at H
              have c50b0 : ((l0_6.length : Int) == 16) = true := beq_iff_eq.mpr c50
              have c50b1 : ((l0_6.length : Int) != 16) = false := bne_eq_false_iff_eq.mpr c50
              clear c50
              by_cases c51 : a0_7 = 0
              · rw [if_pos c51] at H
                have c51b0 : (a0_7 == 0) = true := beq_iff_eq.mpr c51
                have c51b1 : (a0_7 != 0) = false := bne_eq_false_iff_eq.mpr c51
                clear c51
                obtain rfl := Option.some.inj H
                have hcz52_0 : wc.cell? ⟨gb191, 0, none⟩ = some (.int .i64 a0_0) := (blk_cell BK191.out 0).trans rfl
                have hcz52_1 : wc.cell? ⟨gb191, 1, none⟩ = some (.int .u32 a0_1) := (blk_cell BK191.out 1).trans rfl
                have hcz52_2 : wc.cell? ⟨gb191, 2, none⟩ = some (.int .u32 a0_2) := (blk_cell BK191.out 2).trans rfl
                have hcz52_3 : wc.cell? ⟨gb191, 3, none⟩ = some (.int .i64 a0_3) := (blk_cell BK191.out 3).trans rfl
                have hcz52_4 : wc.cell? ⟨gb191, 4, none⟩ = some (.int .i64 a0_4) := (blk_cell BK191.out 4).trans rfl
                have hcz52_5 : wc.cell? ⟨gb191, 5, none⟩ = some (.int .i64 a0_5) := (blk_cell BK191.out 5).trans rfl
                have hcz52_6 : wc.cell? ⟨gb191, 6, none⟩ = some (.slice A0_6 l0_6.length c0_6) := (blk_cell BK191.out 6).trans rfl
                have hcz52_7 : wc.cell? ⟨gb191, 7, none⟩ = some (.int .u64 a0_7) := (blk_cell BK191.out 7).trans rfl
                have hcz52_8 : wc.cell? ⟨gb191, 8, none⟩ = some (.slice A0_8 l0_8.length c0_8) := (blk_cell BK191.out 8).trans rfl
                have hfz52_0 := blk_frozen BK191.out 0
                have hfz52_1 := blk_frozen BK191.out 1
                have hfz52_2 := blk_frozen BK191.out 2
                have hfz52_3 := blk_frozen BK191.out 3
                have hfz52_4 := blk_frozen BK191.out 4
                have hfz52_5 := blk_frozen BK191.out 5
                have hfz52_6 := blk_frozen BK191.out 6
                have hfz52_7 := blk_frozen BK191.out 7
                have hfz52_8 := blk_frozen BK191.out 8
                go_wp2
                go_ret
                exact ⟨by first | rfl | (simp [errW_none, errW_some] <;> rfl) | (simp [*, errW_none, errW_some] <;> rfl), by repeat (first | (with_reducible first | exact HB.out | apply below_alloc | apply pw_below_drewN | apply below_drew1 | refine below_set ?_ GE191.out) | exact HB.out)⟩
              · rw [if_neg c51] at H
                have c51b0 : (a0_7 == 0) = false := beq_eq_false_iff_ne.mpr c51
                have c51b1 : (a0_7 != 0) = true := bne_iff_ne.mpr c51
                obtain rfl := Option.some.inj H
                have hcz53_0 : wc.cell? ⟨gb191, 0, none⟩ = some (.int .i64 a0_0) := (blk_cell BK191.out 0).trans rfl
                have hcz53_1 : wc.cell? ⟨gb191, 1, none⟩ = some (.int .u32 a0_1) := (blk_cell BK191.out 1).trans rfl
                have hcz53_2 : wc.cell? ⟨gb191, 2, none⟩ = some (.int .u32 a0_2) := (blk_cell BK191.out 2).trans rfl
                have hcz53_3 : wc.cell? ⟨gb191, 3, none⟩ = some (.int .i64 a0_3) := (blk_cell BK191.out 3).trans rfl
                have hcz53_4 : wc.cell? ⟨gb191, 4, none⟩ = some (.int .i64 a0_4) := (blk_cell BK191.out 4).trans rfl
                have hcz53_5 : wc.cell? ⟨gb191, 5, none⟩ = some (.int .i64 a0_5) := (blk_cell BK191.out 5).trans rfl
                have hcz53_6 : wc.cell? ⟨gb191, 6, none⟩ = some (.slice A0_6 l0_6.length c0_6) := (blk_cell BK191.out 6).trans rfl
                have hcz53_7 : wc.cell? ⟨gb191, 7, none⟩ = some (.int .u64 a0_7) := (blk_cell BK191.out 7).trans rfl
                have hcz53_8 : wc.cell? ⟨gb191, 8, none⟩ = some (.slice A0_8 l0_8.length c0_8) := (blk_cell BK191.out 8).trans rfl
                have hfz53_0 := blk_frozen BK191.out 0
                have hfz53_1 := blk_frozen BK191.out 1
                have hfz53_2 := blk_frozen BK191.out 2
                have hfz53_3 := blk_frozen BK191.out 3
                have hfz53_4 := blk_frozen BK191.out 4
                have hfz53_5 := blk_frozen BK191.out 5
                have hfz53_6 := blk_frozen BK191.out 6
                have hfz53_7 := blk_frozen BK191.out 7
                have hfz53_8 := blk_frozen BK191.out 8
                go_wp2
                go_ret
                exact ⟨by first | rfl | (simp [errW_none, errW_some] <;> rfl) | (simp [*, errW_none, errW_some] <;> rfl), by repeat (first | (with_reducible first | exact HB.out | apply below_alloc | apply pw_below_drewN | apply below_drew1 | refine below_set ?_ GE191.out) | exact HB.out)⟩
            · rw [if_neg c50] at H
              have c50b0 : ((l0_6.length : Int) == 16) = false := beq_eq_false_iff_ne.mpr c50
              have c50b1 : ((l0_6.length : Int) != 16) = true := bne_iff_ne.mpr c50
              obtain rfl := Option.some.inj H
              have hcz54_0 : wc.cell? ⟨gb191, 0, none⟩ = some (.int .i64 a0_0) := (blk_cell BK191.out 0).trans rfl
              have hcz54_1 : wc.cell? ⟨gb191, 1, none⟩ = some (.int .u32 a0_1) := (blk_cell BK191.out 1).trans rfl
              have hcz54_2 : wc.cell? ⟨gb191, 2, none⟩ = some (.int .u32 a0_2) := (blk_cell BK191.out 2).trans rfl
              have hcz54_3 : wc.cell? ⟨gb191, 3, none⟩ = some (.int .i64 a0_3) := (blk_cell BK191.out 3).trans rfl
              have hcz54_4 : wc.cell? ⟨gb191, 4, none⟩ = some (.int .i64 a0_4) := (blk_cell BK191.out 4).trans rfl
              have hcz54_5 : wc.cell? ⟨gb191, 5, none⟩ = some (.int .i64 a0_5) := (blk_cell BK191.out 5).trans rfl
              have hcz54_6 : wc.cell? ⟨gb191, 6, none⟩ = some (.slice A0_6 l0_6.length c0_6) := (blk_cell BK191.out 6).trans rfl
              have hcz54_7 : wc.cell? ⟨gb191, 7, none⟩ = some (.int .u64 a0_7) := (blk_cell BK191.out 7).trans rfl
              have hcz54_8 : wc.cell? ⟨gb191, 8, none⟩ = some (.slice A0_8 l0_8.length c0_8) := (blk_cell BK191.out 8).trans rfl
              have hfz54_0 := blk_frozen BK191.out 0
              have hfz54_1 := blk_frozen BK191.out 1
              have hfz54_2 := blk_frozen BK191.out 2
              have hfz54_3 := blk_frozen BK191.out 3
              have hfz54_4 := blk_frozen BK191.out 4
              have hfz54_5 := blk_frozen BK191.out 5
              have hfz54_6 := blk_frozen BK191.out 6
              have hfz54_7 := blk_frozen BK191.out 7
              have hfz54_8 := blk_frozen BK191.out 8
              go_wp2
              go_ret
              exact ⟨by first | rfl | (simp [errW_none, errW_some] <;> rfl) | (simp [*, errW_none, errW_some] <;> rfl), by repeat (first | (with_reducible first | exact HB.out | apply below_alloc | apply pw_below_drewN | apply below_drew1 | refine below_set ?_ GE191.out) | exact HB.out)⟩
          · rw [if_neg c49] at H
            have c49b0 : (a0_0 == 2) = false := beq_eq_false_iff_ne.mpr c49
            have c49b1 : (a0_0 != 2) = true := bne_iff_ne.mpr c49
            by_cases c55 : a0_0 = 3
            · rw [if_pos c55] at H
              have c55b0 : (a0_0 == 3) = true := beq_iff_eq.mpr c55
              have c55b1 : (a0_0 != 3) = false := bne_eq_false_iff_eq.mpr c55
              clear c55
              by_cases c56 : (l0_6.length : Int) = 0
              · rw [if_pos c56] at H
                have c56b0 : ((l0_6.length : Int) == 0) = true := beq_iff_eq.mpr c56
                have c56b1 : ((l0_6.length : Int) != 0) = false := bne_eq_false_iff_eq.mpr c56
                clear c56
                by_cases c57 : (l0_8.length : Int) ≥ 16
                · rw [if_pos c57] at H
                  have c57b0 : decide (16 ≤ (l0_8.length : Int)) = true := decide_eq_true c57
                  have c57b1 : decide (16 ≤ l0_8.length) = true := decide_eq_true (by omega)
                  clear c57
                  obtain rfl := Option.some.inj H
                  have hcz58_0 : wc.cell? ⟨gb191, 0, none⟩ = some (.int .i64 a0_0) := (blk_cell BK191.out 0).trans rfl
                  have hcz58_1 : wc.cell? ⟨gb191, 1, none⟩ = some (.int .u32 a0_1) := (blk_cell BK191.out 1).trans rfl
                  have hcz58_2 : wc.cell? ⟨gb191, 2, none⟩ = some (.int .u32 a0_2) := (blk_cell BK191.out 2).trans rfl
                  have hcz58_3 : wc.cell? ⟨gb191, 3, none⟩ = some (.int .i64 a0_3) := (blk_cell BK191.out 3).trans rfl
                  have hcz58_4 : wc.cell? ⟨gb191, 4, none⟩ = some (.int .i64 a0_4) := (blk_cell BK191.out 4).trans rfl
                  have hcz58_5 : wc.cell? ⟨gb191, 5, none⟩ = some (.int .i64 a0_5) := (blk_cell BK191.out 5).trans rfl
                  have hcz58_6 : wc.cell? ⟨gb191, 6, none⟩ = some (.slice A0_6 l0_6.length c0_6) := (blk_cell BK191.out 6).trans rfl
                  have hcz58_7 : wc.cell? ⟨gb191, 7, none⟩ = some (.int .u64 a0_7) := (blk_cell BK191.out 7).trans rfl
                  have hcz58_8 : wc.cell? ⟨gb191, 8, none⟩ = some (.slice A0_8 l0_8.length c0_8) := (blk_cell BK191.out 8).trans rfl
                  have hfz58_0 := blk_frozen BK191.out 0
                  have hfz58_1 := blk_frozen BK191.out 1
                  have hfz58_2 := blk_frozen BK191.out 2
                  have hfz58_3 := blk_frozen BK191.out 3
                  have hfz58_4 := blk_frozen BK191.out 4
                  have hfz58_5 := blk_frozen BK191.out 5
                  have hfz58_6 := blk_frozen BK191.out 6
                  have hfz58_7 := blk_frozen BK191.out 7
                  have hfz58_8 := blk_frozen BK191.out 8
                  go_wp2
                  go_ret
                  exact ⟨by first | rfl | (simp [errW_none, errW_some] <;> rfl) | (simp [*, errW_none, errW_some] <;> rfl), by repeat (first | (with_reducible first | exact HB.out | apply below_alloc | apply pw_below_drewN | apply below_drew1 | refine below_set ?_ GE191.out) | exact HB.out)⟩
                · rw [if_neg c57] at H
                  have c57b0 : decide (16 ≤ (l0_8.length : Int)) = false := decide_eq_false c57
                  have c57b1 : decide (16 ≤ l0_8.length) = false := decide_eq_false (by omega)
                  clear c57
                  obtain rfl := Option.some.inj H
                  have hcz59_0 : wc.cell? ⟨gb191, 0, none⟩ = some (.int .i64 a0_0) := (blk_cell BK191.out 0).trans rfl
                  have hcz59_1 : wc.cell? ⟨gb191, 1, none⟩ = some (.int .u32 a0_1) := (blk_cell BK191.out 1).trans rfl
                  have hcz59_2 : wc.cell? ⟨gb191, 2, none⟩ = some (.int .u32 a0_2) := (blk_cell BK191.out 2).trans rfl
                  have hcz59_3 : wc.cell? ⟨gb191, 3, none⟩ = some (.int .i64 a0_3) := (blk_cell BK191.out 3).trans rfl
                  have hcz59_4 : wc.cell? ⟨gb191, 4, none⟩ = some (.int .i64 a0_4) := (blk_cell BK191.out 4).trans rfl
                  have hcz59_5 : wc.cell? ⟨gb191, 5, none⟩ = some (.int .i64 a0_5) := (blk_cell BK191.out 5).trans rfl
                  have hcz59_6 : wc.cell? ⟨gb191, 6, none⟩ = some (.slice A0_6 l0_6.length c0_6) := (blk_cell BK191.out 6).trans rfl
                  have hcz59_7 : wc.cell? ⟨gb191, 7, none⟩ = some (.int .u64 a0_7) := (blk_cell BK191.out 7).trans rfl
                  have hcz59_8 : wc.cell? ⟨gb191, 8, none⟩ = some (.slice A0_8 l0_8.length c0_8) := (blk_cell BK191.out 8).trans rfl
                  have hfz59_0 := blk_frozen BK191.out 0
                  have hfz59_1 := blk_frozen BK191.out 1
                  have hfz59_2 := blk_frozen BK191.out 2
                  have hfz59_3 := blk_frozen BK191.out 3
                  have hfz59_4 := blk_frozen BK191.out 4
                  have hfz59_5 := blk_frozen BK191.out 5
                  have hfz59_6 := blk_frozen BK191.out 6
                  have hfz59_7 := blk_frozen BK191.out 7
                  have hfz59_8 := blk_frozen BK191.out 8
                  go_wp2
                  go_ret
                  exact ⟨by first | rfl | (simp [errW_none, errW_some] <;> rfl) | (simp [*, errW_none, errW_some] <;> rfl), by repeat (first | (with_reducible first | exact HB.out | apply below_alloc | apply pw_below_drewN | apply below_drew1 | refine below_set ?_ GE191.out) | exact HB.out)⟩
              · rw [if_neg c56] at H
                have c56b0 : ((l0_6.length : Int) == 0) = false := beq_eq_false_iff_ne.mpr c56
                have c56b1 : ((l0_6.length : Int) != 0) = true := bne_iff_ne.mpr c56
                have c56b2 : ¬ (l0_6 = []) := fun h_ => c56 (by rw [h_]; rfl)
                obtain rfl := Option.some.inj H
                have hcz60_0 : wc.cell? ⟨gb191, 0, none⟩ = some (.int .i64 a0_0) := (blk_cell BK191.out 0).trans rfl
                have hcz60_1 : wc.cell? ⟨gb191, 1, none⟩ = some (.int .u32 a0_1) := (blk_cell BK191.out 1).trans rfl
                have hcz60_2 : wc.cell? ⟨gb191, 2, none⟩ = some (.int .u32 a0_2) := (blk_cell BK191.out 2).trans rfl
                have hcz60_3 : wc.cell? ⟨gb191, 3, none⟩ = some (.int .i64 a0_3) := (blk_cell BK191.out 3).trans rfl
                have hcz60_4 : wc.cell? ⟨gb191, 4, none⟩ = some (.int .i64 a0_4) := (blk_cell BK191.out 4).trans rfl
                have hcz60_5 : wc.cell? ⟨gb191, 5, none⟩ = some (.int .i64 a0_5) := (blk_cell BK191.out 5).trans rfl
                have hcz60_6 : wc.cell? ⟨gb191, 6, none⟩ = some (.slice A0_6 l0_6.length c0_6) := (blk_cell BK191.out 6).trans rfl
                have hcz60_7 : wc.cell? ⟨gb191, 7, none⟩ = some (.int .u64 a0_7) := (blk_cell BK191.out 7).trans rfl
                have hcz60_8 : wc.cell? ⟨gb191, 8, none⟩ = some (.slice A0_8 l0_8.length c0_8) := (blk_cell BK191.out 8).trans rfl
                have hfz60_0 := blk_frozen BK191.out 0
                have hfz60_1 := blk_frozen BK191.out 1
                have hfz60_2 := blk_frozen BK191.out 2
                have hfz60_3 := blk_frozen BK191.out 3
                have hfz60_4 := blk_frozen BK191.out 4
                have hfz60_5 := blk_frozen BK191.out 5
                have hfz60_6 := blk_frozen BK191.out 6
                have hfz60_7 := blk_frozen BK191.out 7
                have hfz60_8 := blk_frozen BK191.out 8
                go_wp2
                go_ret
                exact ⟨by first | rfl | (simp [errW_none, errW_some] <;> rfl) | (simp [*, errW_none, errW_some] <;> rfl), by repeat (first | (with_reducible first | exact HB.out | apply below_alloc | apply pw_below_drewN | apply below_drew1 | refine below_set ?_ GE191.out) | exact HB.out)⟩
            · rw [if_neg c55] at H
              have c55b0 : (a0_0 == 3) = false := beq_eq_false_iff_ne.mpr c55
              have c55b1 : (a0_0 != 3) = true := bne_iff_ne.mpr c55
              by_cases c61 : a0_0 = 4
              · rw [if_pos c61] at H
                have c61b0 : (a0_0 == 4) = true := beq_iff_eq.mpr c61
                have c61b1 : (a0_0 != 4) = false := bne_eq_false_iff_eq.mpr c61
                clear c61
                by_cases c62 : (l0_6.length : Int) = 0
                · rw [if_pos c62] at H
                  have c62b0 : ((l0_6.length : Int) == 0) = true := beq_iff_eq.mpr c62
                  have c62b1 : ((l0_6.length : Int) != 0) = false := bne_eq_false_iff_eq.mpr c62
                  clear c62
                  obtain rfl := Option.some.inj H
                  have hcz63_0 : wc.cell? ⟨gb191, 0, none⟩ = some (.int .i64 a0_0) := (blk_cell BK191.out 0).trans rfl
                  have hcz63_1 : wc.cell? ⟨gb191, 1, none⟩ = some (.int .u32 a0_1) := (blk_cell BK191.out 1).trans rfl
                  have hcz63_2 : wc.cell? ⟨gb191, 2, none⟩ = some (.int .u32 a0_2) := (blk_cell BK191.out 2).trans rfl
                  have hcz63_3 : wc.cell? ⟨gb191, 3, none⟩ = some (.int .i64 a0_3) := (blk_cell BK191.out 3).trans rfl
                  have hcz63_4 : wc.cell? ⟨gb191, 4, none⟩ = some (.int .i64 a0_4) := (blk_cell BK191.out 4).trans rfl
                  have hcz63_5 : wc.cell? ⟨gb191, 5, none⟩ = some (.int .i64 a0_5) := (blk_cell BK191.out 5).trans rfl
                  have hcz63_6 : wc.cell? ⟨gb191, 6, none⟩ = some (.slice A0_6 l0_6.length c0_6) := (blk_cell BK191.out 6).trans rfl
                  have hcz63_7 : wc.cell? ⟨gb191, 7, none⟩ = some (.int .u64 a0_7) := (blk_cell BK191.out 7).trans rfl
                  have hcz63_8 : wc.cell? ⟨gb191, 8, none⟩ = some (.slice A0_8 l0_8.length c0_8) := (blk_cell BK191.out 8).trans rfl
                  have hfz63_0 := blk_frozen BK191.out 0
                  have hfz63_1 := blk_frozen BK191.out 1
                  have hfz63_2 := blk_frozen BK191.out 2
                  have hfz63_3 := blk_frozen BK191.out 3
                  have hfz63_4 := blk_frozen BK191.out 4
                  have hfz63_5 := blk_frozen BK191.out 5
                  have hfz63_6 := blk_frozen BK191.out 6
                  have hfz63_7 := blk_frozen BK191.out 7
                  have hfz63_8 := blk_frozen BK191.out 8
                  go_wp2
                  go_ret
                  exact ⟨by first | rfl | (simp [errW_none, errW_some] <;> rfl) | (simp [*, errW_none, errW_some] <;> rfl), by repeat (first | (with_reducible first | exact HB.out | apply below_alloc | apply pw_below_drewN | apply below_drew1 | refine below_set ?_ GE191.out) | exact HB.out)⟩
                · rw [if_neg c62] at H
                  have c62b0 : ((l0_6.length : Int) == 0) = false := beq_eq_false_iff_ne.mpr c62
                  have c62b1 : ((l0_6.length : Int) != 0) = true := bne_iff_ne.mpr c62
                  have c62b2 : ¬ (l0_6 = []) := fun h_ => c62 (by rw [h_]; rfl)
                  obtain rfl := Option.some.inj H
                  have hcz64_0 : wc.cell? ⟨gb191, 0, none⟩ = some (.int .i64 a0_0) := (blk_cell BK191.out 0).trans rfl
                  have hcz64_1 : wc.cell? ⟨gb191, 1, none⟩ = some (.int .u32 a0_1) := (blk_cell BK191.out 1).trans rfl
                  have hcz64_2 : wc.cell? ⟨gb191, 2, none⟩ = some (.int .u32 a0_2) := (blk_cell BK191.out 2).trans rfl
                  have hcz64_3 : wc.cell? ⟨gb191, 3, none⟩ = some (.int .i64 a0_3) := (blk_cell BK191.out 3).trans rfl
                  have hcz64_4 : wc.cell? ⟨gb191, 4, none⟩ = some (.int .i64 a0_4) := (blk_cell BK191.out 4).trans rfl
                  have hcz64_5 : wc.cell? ⟨gb191, 5, none⟩ = some (.int .i64 a0_5) := (blk_cell BK191.out 5).trans rfl
                  have hcz64_6 : wc.cell? ⟨gb191, 6, none⟩ = some (.slice A0_6 l0_6.length c0_6) := (blk_cell BK191.out 6).trans rfl
                  have hcz64_7 : wc.cell? ⟨gb191, 7, none⟩ = some (.int .u64 a0_7) := (blk_cell BK191.out 7).trans rfl
                  have hcz64_8 : wc.cell? ⟨gb191, 8, none⟩ = some (.slice A0_8 l0_8.length c0_8) := (blk_cell BK191.out 8).trans rfl
                  have hfz64_0 := blk_frozen BK191.out 0
                  have hfz64_1 := blk_frozen BK191.out 1
                  have hfz64_2 := blk_frozen BK191.out 2
                  have hfz64_3 := blk_frozen BK191.out 3
                  have hfz64_4 := blk_frozen BK191.out 4
                  have hfz64_5 := blk_frozen BK191.out 5
                  have hfz64_6 := blk_frozen BK191.out 6
                  have hfz64_7 := blk_frozen BK191.out 7
                  have hfz64_8 := blk_frozen BK191.out 8
                  go_wp2
                  go_ret
                  exact ⟨by first | rfl | (simp [errW_none, errW_some] <;> rfl) | (simp [*, errW_none, errW_some] <;> rfl), by repeat (first | (with_reducible first | exact HB.out | apply below_alloc | apply pw_below_drewN | apply below_drew1 | refine below_set ?_ GE191.out) | exact HB.out)⟩
              · rw [if_neg c61] at H
                have c61b0 : (a0_0 == 4) = false := beq_eq_false_iff_ne.mpr c61
                have c61b1 : (a0_0 != 4) = true := bne_iff_ne.mpr c61
                obtain rfl := Option.some.inj H
                have hcz65_0 : wc.cell? ⟨gb191, 0, none⟩ = some (.int .i64 a0_0) := (blk_cell BK191.out 0).trans rfl
                have hcz65_1 : wc.cell? ⟨gb191, 1, none⟩ = some (.int .u32 a0_1) := (blk_cell BK191.out 1).trans rfl
                have hcz65_2 : wc.cell? ⟨gb191, 2, none⟩ = some (.int .u32 a0_2) := (blk_cell BK191.out 2).trans rfl
                have hcz65_3 : wc.cell? ⟨gb191, 3, none⟩ = some (.int .i64 a0_3) := (blk_cell BK191.out 3).trans rfl
                have hcz65_4 : wc.cell? ⟨gb191, 4, none⟩ = some (.int .i64 a0_4) := (blk_cell BK191.out 4).trans rfl
                have hcz65_5 : wc.cell? ⟨gb191, 5, none⟩ = some (.int .i64 a0_5) := (blk_cell BK191.out 5).trans rfl
                have hcz65_6 : wc.cell? ⟨gb191, 6, none⟩ = some (.slice A0_6 l0_6.length c0_6) := (blk_cell BK191.out 6).trans rfl
                have hcz65_7 : wc.cell? ⟨gb191, 7, none⟩ = some (.int .u64 a0_7) := (blk_cell BK191.out 7).trans rfl
                have hcz65_8 : wc.cell? ⟨gb191, 8, none⟩ = some (.slice A0_8 l0_8.length c0_8) := (blk_cell BK191.out 8).trans rfl
                have hfz65_0 := blk_frozen BK191.out 0
                have hfz65_1 := blk_frozen BK191.out 1
                have hfz65_2 := blk_frozen BK191.out 2
                have hfz65_3 := blk_frozen BK191.out 3
                have hfz65_4 := blk_frozen BK191.out 4
                have hfz65_5 := blk_frozen BK191.out 5
                have hfz65_6 := blk_frozen BK191.out 6
                have hfz65_7 := blk_frozen BK191.out 7
                have hfz65_8 := blk_frozen BK191.out 8
                go_wp2
                go_ret
                exact ⟨by first | rfl | (simp [errW_none, errW_some] <;> rfl) | (simp [*, errW_none, errW_some] <;> rfl), by repeat (first | (with_reducible first | exact HB.out | apply below_alloc | apply pw_below_drewN | apply below_drew1 | refine below_set ?_ GE191.out) | exact HB.out)⟩

/-! ### redanref01_Store: function 36 -/
def redanref01_Store.l0 : Nat → Int → Int → List Int → Int → Option (List Int)
  | 0, _, _, _, _ => none
  | k + 1, x0, x1, x5, x6 => if x6 < x1 then (if x6 < 8 then (if x5.length < 140737488355328 then (redanref01_Store.l0 k (IntKind.u64.wrap (Int.tdiv x0 256)) x1 (x5 ++ [(Int.tmod x0 256) % 256]) (wrap64 (x6 + 1))) else (none)) else (some x5)) else (some x5)
def redanref01_Store.f (k : Nat) (a0 : Int) (a1 : Int) : Option (List Int) := redanref01_Store.l0 k a0 a1 ([] : List Int) 0
theorem redanref01_Store.mono_l : ∀ k, (∀ y0 y1 y2 y3, LeO (redanref01_Store.l0 k y0 y1 y2 y3) (redanref01_Store.l0 (k + 1) y0 y1 y2 y3))
  | 0 => fun _ _ _ _ r h => by simp [redanref01_Store.l0] at h
  | k + 1 => by
    have ih0 := redanref01_Store.mono_l k
    · intro y0 y1 y2 y3
      unfold redanref01_Store.l0
      repeat' first
      | (with_reducible exact ih0 _ _ _ _)
      | (with_reducible exact LeO.refl _)
      | (with_reducible exact LeO.none _)
      | (with_reducible refine LeO.ite ?_ ?_)
      | (with_reducible refine LeO.bind ?_ (fun _ => ?_))
      | exact ih0 _ _ _ _
      | exact LeO.none _
      | refine LeO.ite ?_ ?_
      | refine LeO.bind ?_ (fun _ => ?_)
theorem redanref01_Store.mono : ∀ a0 a1 k, LeO (redanref01_Store.f k a0 a1) (redanref01_Store.f (k + 1) a0 a1) := by
  intro a0 a1 k
  have ih0 := redanref01_Store.mono_l k
  unfold redanref01_Store.f
  repeat' first
      | (with_reducible exact ih0 _ _ _ _)
      | (with_reducible exact LeO.refl _)
      | (with_reducible exact LeO.none _)
      | (with_reducible refine LeO.ite ?_ ?_)
      | (with_reducible refine LeO.bind ?_ (fun _ => ?_))
      | exact ih0 _ _ _ _
      | exact LeO.none _
      | refine LeO.ite ?_ ?_
      | refine LeO.bind ?_ (fun _ => ?_)
set_option maxHeartbeats 8000000 in
set_option maxRecDepth 100000 in
theorem redanref01_Store.calls (k : Nat) (a0 : Int) (a1 : Int) (r : List Int) (w : World) (h : redanref01_Store.f k a0 a1 = some r) :
    Calls Try.prog 36 #[.int .u64 a0, .int .i64 a1] w fun e w' => ∃ v0_ : Value, e = .returned (v0_) ∧ Kd.R (Kd.int .u8) 5 w' w.heap.size (fun _ => True) v0_ r ∧ Below w.heap.size w w' := by
  have HB := Aside0.mk (Below.refl w.heap.size w)
  have H : (redanref01_Store.l0 k a0 a1 ([] : List Int) 0) = some r := h
  clear h
  have H' := Aside0.mk H
  clear H
  go_enter Try.func36, Try.ntmps36
  go_wp2
  go_loopg [0, 5, 6] k (fun kq v0 v5 v6 w' => ∃ (x0_1 : Int) (x5_1 : List Int) (x6_1 : Int), v0 = .int .u64 x0_1 ∧ v6 = .int .i64 x6_1 ∧ Aside0 (redanref01_Store.l0 kq x0_1 a1 x5_1 x6_1 = some r) ∧ Aside0 (kq ≤ k) ∧ Aside0 (Kd.R (Kd.int .u8) 5 w' w.heap.size (fun _ => True) v5 x5_1) ∧ Aside0 (Below w.heap.size w w'))
  case atStart => exact ⟨(a0), (([] : List Int)), (0), (by first | rfl | (simp; done) | (simp [*]; done)), (by first | rfl | (simp; done) | (simp [*]; done)), H', ⟨Nat.le_refl _⟩, ⟨by first | exact Kd.R_nil _ _ _ _ _ | exact Kd.N_nil _ _ _ _ _ | exact Kd.V_nil _ _ _ _ _ | exact Kd.Q_nil _ _ _ _ _ | exact Kd.S_nil _ _ _ _ _⟩, ⟨by repeat (first | (with_reducible first | exact HB.out | apply below_alloc | apply pw_below_drewN | apply below_drew1) | exact HB.out)⟩⟩
  case round =>
    clear H'
    try clear p2
    obtain ⟨x0_1, x5_1, x6_1, rfl, rfl, HA, HK1, HO_5, HB⟩ := hrel
    cases gk with
    | zero => exact absurd HA.out (by simp [redanref01_Store.l0])
    | succ k1 =>
      have H := HA.out
      clear HA
      simp only [redanref01_Store.l0] at H
      by_cases c3 : x6_1 < a1
      · rw [if_pos c3] at H
        have c3b0 : decide (x6_1 < a1) = true := decide_eq_true c3
        clear c3
        by_cases c4 : x6_1 < 8
        · rw [if_pos c4] at H
          have c4b0 : decide (x6_1 < 8) = true := decide_eq_true c4
          clear c4
          by_cases c5 : x5_1.length < 140737488355328
          · rw [if_pos c5] at H
            have LMc5 := Aside0.mk c5
            clear c5
            obtain ⟨y192, hy192⟩ : ∃ y_ : List Int, y_ = (x5_1 ++ [(Int.tmod x0_1 256) % 256]) := ⟨_, rfl⟩
            replace H : (redanref01_Store.l0 k1 (IntKind.u64.wrap (Int.tdiv x0_1 256)) a1 y192 (wrap64 (x6_1 + 1))) = some r := by first | (rw [hy192]; with_reducible exact H) | (have H2_ := (Option.bind_some _ _).symm.trans H; rw [hy192]; with_reducible exact H2_) | (have H2_ := (Option.bind_some _ _).symm.trans H; with_reducible exact H2_) | with_reducible exact H | (rw [hy192]; exact H) | exact H
            have Ny192 := Aside0.mk hy192
            clear hy192
            have H' := Aside0.mk H
            clear H
            go_wp2_with (first | ((with_reducible refine gate_builtin (b := .append) (xs := #[.tmp 16, .tmp 20]) rfl ?_); at_builtin; refine Kd.R_append (Kd.int .u8) (w0 := w) w.heap.size rfl (.tmp 16) (.tmp 20) 37 5 (.int .u8 0) 1 rfl Try.underlying37 info5 rfl (by decide) (by omega) u5 x5_1 ((Int.tmod x0_1 256) % 256) [.int .u8 ((Int.tmod x0_1 256) % 256)] (fun _ => True) (fun _ => False) rfl rfl ?aP (fun _ hk => hk.elim) ?aF ?aO ?aB ?aS ?aL ?_; (case aP => exact rfl); (case aB => exact (by repeat (first | (with_reducible first | exact HB.out | apply below_alloc | apply pw_below_drewN | apply below_drew1) | exact HB.out))); (case aF => exact (fun _ _ => trivial)); (case aO => exact (by (with_reducible repeat (first | apply Kd.R_alloc | apply Kd.R_drewN | apply Kd.R_drew)); exact HO_5.out)); (case aS => exact (below_size (by repeat (first | (with_reducible first | exact HB.out | apply below_alloc | apply pw_below_drewN | apply below_drew1) | exact HB.out)))); (case aL => have := LMc5.out; omega); intro v193 w6 ho hb hg hat; rw [← Ny192.out] at ho; have n0_ := Aside0.mk (hb); have n1_ := Aside0.mk (ho); clear HB; clear HO_5; have HB := n0_; have HO194 := n1_; clear n0_ n1_; clear ho hb hg hat))
            go_roundg k1
            case measure => have := HK1.out; omega
            case rel => exact ⟨(IntKind.u64.wrap (Int.tdiv x0_1 256)), (y192), (wrap64 (x6_1 + 1)), (by first | rfl | (simp; done) | (simp [*]; done)), (by first | rfl | (simp; done) | (simp [*]; done)), H', ⟨by have := HK1.out; omega⟩, ⟨by (with_reducible repeat (first | apply Kd.R_alloc | apply Kd.R_drewN | apply Kd.R_drew)); exact HO194.out⟩, ⟨by repeat (first | (with_reducible first | exact HB.out | apply below_alloc | apply pw_below_drewN | apply below_drew1) | exact HB.out)⟩⟩
          · rw [if_neg c5] at H
            exact absurd H (by simp)
        · rw [if_neg c4] at H
          have c4b0 : decide (x6_1 < 8) = false := decide_eq_false c4
          clear c4
          obtain rfl := Option.some.inj H
          go_wp2
          go_ret
          exact ⟨_, by first | rfl | (simp [errW_none, errW_some] <;> rfl) | (simp [*, errW_none, errW_some] <;> rfl), by (with_reducible repeat (first | apply Kd.R_alloc | apply Kd.R_drewN | apply Kd.R_drew)); exact HO_5.out, by repeat (first | (with_reducible first | exact HB.out | apply below_alloc | apply pw_below_drewN | apply below_drew1) | exact HB.out)⟩
      · rw [if_neg c3] at H
        have c3b0 : decide (x6_1 < a1) = false := decide_eq_false c3
        clear c3
        obtain rfl := Option.some.inj H
        go_wp2
        go_ret
        exact ⟨_, by first | rfl | (simp [errW_none, errW_some] <;> rfl) | (simp [*, errW_none, errW_some] <;> rfl), by (with_reducible repeat (first | apply Kd.R_alloc | apply Kd.R_drewN | apply Kd.R_drew)); exact HO_5.out, by repeat (first | (with_reducible first | exact HB.out | apply below_alloc | apply pw_below_drewN | apply below_drew1) | exact HB.out)⟩

end Go.Proofs.Ytkcjgkfgjbhfnaa.Wr
