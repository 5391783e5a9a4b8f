-- contracts that the kit's print wrote for this claim, cut by wip/tools/cutprint.py
import Derived.Test.YtkcjgkfgjbhfnaaRw3
namespace Go.Proofs.Ytkcjgkfgjbhfnaa.Wr
open Go.RowKit Go.Proofs.YtkcjgkfgjbhfnaaW.PrintWords Go.Proofs.YtkcjgkfgjbhfnaaW.PrintLast Go.Proofs.YtkcjgkfgjbhfnaaW.PrintMore
attribute [local go_sem] max2_int min2_int max_two min_two max_three min_three max_four min_four   -- for this text's walks alone
set_option linter.unusedVariables false
set_option linter.unusedSimpArgs false


/-! ### redanref18_Signed: function 23 -/
def redanref18_Signed.j0 : Nat → Bool → Int → Int → Int → Int → Int → Int → List Int → Int → List Int → Option (List Int)
  | 0, _, _, _, _, _, _, _, _, _, _ => none
  | k + 1, x13, x254000, x254001, x254002, x254003, x254004, x254005, x254006, x254007, x254008 => if x13 = true then (some ([] : List Int)) else ((redanref18_Put.f k x254000 x254001 x254002 x254003 x254004 x254005 x254006 x254007 x254008).bind fun t255 => (if 12 ≤ (t255.length : Int) then (if 28 ≤ (t255.length : Int) then ((redanref01_Join.f (t255.take 12) (t255.drop 28)).bind fun t266 => (some t266)) else (none)) else (none)))
def redanref18_Signed.f (k : Nat) (a0_0 : Int) (a0_1 : Int) (a0_2 : Int) (a0_3 : Int) (a0_4 : Int) (a0_5 : Int) (l0_6 : List Int) (a0_7 : Int) (l0_8 : List Int) : Option (List Int) := (redanref18_May.f k a0_0 a0_1 a0_2 a0_3 a0_4 a0_5 l0_6 a0_7 l0_8).bind fun t254 => (if t254 = true then (redanref18_Signed.j0 k (a0_0 != 1) a0_0 a0_1 a0_2 a0_3 a0_4 a0_5 l0_6 a0_7 l0_8) else (redanref18_Signed.j0 k true a0_0 a0_1 a0_2 a0_3 a0_4 a0_5 l0_6 a0_7 l0_8))
theorem redanref18_Signed.mono_l : ∀ k, (∀ y0 y1 y2 y3 y4 y5 y6 y7 y8 y9, LeO (redanref18_Signed.j0 k y0 y1 y2 y3 y4 y5 y6 y7 y8 y9) (redanref18_Signed.j0 (k + 1) y0 y1 y2 y3 y4 y5 y6 y7 y8 y9))
  | 0 => fun _ _ _ _ _ _ _ _ _ _ r h => by simp [redanref18_Signed.j0] at h
  | k + 1 => by
    have ih0 := redanref18_Signed.mono_l k
    · intro y0 y1 y2 y3 y4 y5 y6 y7 y8 y9
      unfold redanref18_Signed.j0
      repeat' first
      | (with_reducible exact ih0 _ _ _ _ _ _ _ _ _ _)
      | (with_reducible exact redanref18_May.mono _ _ _ _ _ _ _ _ _ _)
      | (with_reducible exact redanref18_Put.mono _ _ _ _ _ _ _ _ _ _)
      | (with_reducible exact LeO.refl _)
      | (with_reducible exact LeO.none _)
      | (with_reducible refine LeO.ite ?_ ?_)
      | (with_reducible refine LeO.bind ?_ (fun _ => ?_))
      | exact ih0 _ _ _ _ _ _ _ _ _ _
      | exact redanref18_May.mono _ _ _ _ _ _ _ _ _ _
      | exact redanref18_Put.mono _ _ _ _ _ _ _ _ _ _
      | exact LeO.none _
      | refine LeO.ite ?_ ?_
      | refine LeO.bind ?_ (fun _ => ?_)
theorem redanref18_Signed.mono : ∀ a0 a1 a2 a3 a4 a5 a6 a7 a8 k, LeO (redanref18_Signed.f k a0 a1 a2 a3 a4 a5 a6 a7 a8) (redanref18_Signed.f (k + 1) a0 a1 a2 a3 a4 a5 a6 a7 a8) := by
  intro a0 a1 a2 a3 a4 a5 a6 a7 a8 k
  have ih0 := redanref18_Signed.mono_l k
  unfold redanref18_Signed.f
  repeat' first
      | (with_reducible exact ih0 _ _ _ _ _ _ _ _ _ _)
      | (with_reducible exact redanref18_May.mono _ _ _ _ _ _ _ _ _ _)
      | (with_reducible exact redanref18_Put.mono _ _ _ _ _ _ _ _ _ _)
      | (with_reducible exact LeO.refl _)
      | (with_reducible exact LeO.none _)
      | (with_reducible refine LeO.ite ?_ ?_)
      | (with_reducible refine LeO.bind ?_ (fun _ => ?_))
      | exact ih0 _ _ _ _ _ _ _ _ _ _
      | exact redanref18_May.mono _ _ _ _ _ _ _ _ _ _
      | exact redanref18_Put.mono _ _ _ _ _ _ _ _ _ _
      | exact LeO.none _
      | refine LeO.ite ?_ ?_
      | refine LeO.bind ?_ (fun _ => ?_)
set_option maxHeartbeats 8000000 in
set_option maxRecDepth 100000 in
theorem redanref18_Signed.calls (k : Nat) (a0_0 : Int) (a0_1 : Int) (a0_2 : Int) (a0_3 : Int) (a0_4 : Int) (a0_5 : Int) (A0_6 : Option Addr) (c0_6 : Nat) (l0_6 : List Int) (a0_7 : Int) (A0_8 : Option Addr) (c0_8 : Nat) (l0_8 : List Int) (r : List Int) (w : World) (hr0_6 : Kd.C (Kd.int .u8) w A0_6 l0_6.length l0_6) (hc0_6 : l0_6.length ≤ c0_6) (hr0_8 : Kd.C (Kd.int .u8) w A0_8 l0_8.length l0_8) (hc0_8 : l0_8.length ≤ c0_8) (h : redanref18_Signed.f k a0_0 a0_1 a0_2 a0_3 a0_4 a0_5 l0_6 a0_7 l0_8 = some r) :
    Calls Try.prog 23 #[.agg #[.int .i64 a0_0, .int .u32 a0_1, .int .u32 a0_2, .int .i64 a0_3, .int .i64 a0_4, .int .i64 a0_5, .slice A0_6 l0_6.length c0_6, .int .u64 a0_7, .slice A0_8 l0_8.length c0_8]] w fun e w' => ∃ v0_ : Value, e = .returned (v0_) ∧ Kd.R (Kd.int .u8) 5 w' w.heap.size (fun _ => True) v0_ r ∧ Below w.heap.size w w' := by
  have hu46 := Try.underlying46
  have HR0_6 := Aside0.mk hr0_6
  have HC0_6 := Aside0.mk hc0_6
  clear hr0_6 hc0_6
  have HR0_8 := Aside0.mk hr0_8
  have HC0_8 := Aside0.mk hc0_8
  clear hr0_8 hc0_8
  have HB := Aside0.mk (Below.refl w.heap.size w)
  have H : ((redanref18_May.f k a0_0 a0_1 a0_2 a0_3 a0_4 a0_5 l0_6 a0_7 l0_8).bind fun t254 => (if t254 = true then (redanref18_Signed.j0 k (a0_0 != 1) a0_0 a0_1 a0_2 a0_3 a0_4 a0_5 l0_6 a0_7 l0_8) else (redanref18_Signed.j0 k true a0_0 a0_1 a0_2 a0_3 a0_4 a0_5 l0_6 a0_7 l0_8))) = some r := h
  clear h
  replace H := Option.bind_eq_some_iff.mp H
  obtain ⟨t254, A20, H⟩ := H
  replace H : (if t254 = true then (redanref18_Signed.j0 k (a0_0 != 1) a0_0 a0_1 a0_2 a0_3 a0_4 a0_5 l0_6 a0_7 l0_8) else (redanref18_Signed.j0 k true a0_0 a0_1 a0_2 a0_3 a0_4 a0_5 l0_6 a0_7 l0_8)) = some r := H
  have A2 := Aside0.mk A20
  clear A20
  have HC3 := Aside0.mk H
  clear H
  go_enter Try.func23, Try.ntmps23
  go_upto_region 2 with (first | ((with_reducible refine gate_dst (N := 1) rfl ?_); refine box_event ?hg (N := 1) ?hd (cs := #[.int .i64 a0_0, .int .u32 a0_1, .int .u32 a0_2, .int .i64 a0_3, .int .i64 a0_4, .int .i64 a0_5, .slice A0_6 l0_6.length c0_6, .int .u64 a0_7, .slice A0_8 l0_8.length c0_8]) (t := 46) ?hr ?_; (case hd => rfl); (case hg => rfl); (case hr => first | (go_simp; done) | (go_simp; rfl)); intro gb253 hg w4 hbox hb; have n0_ := Aside0.mk (below_step (by repeat (first | (with_reducible first | exact HB.out | apply below_alloc | apply pw_below_drewN | apply below_drew1) | exact HB.out)) hb); have n1_ := Aside0.mk (hbox); have n2_ := Aside0.mk ((by rw [hg]; exact (below_size (by repeat (first | (with_reducible first | exact HB.out | apply below_alloc | apply pw_below_drewN | apply below_drew1) | exact HB.out))) : w.heap.size ≤ gb253)); have n3_ := Aside0.mk ((by rw [hg]; exact (below_size (by repeat (first | (with_reducible first | exact HB.out | apply below_alloc | apply pw_below_drewN | apply below_drew1) | exact HB.out))) : w.heap.size ≤ gb253)); clear HB; have HB := n0_; have BK253 := n1_; have GW253 := n2_; have GE253 := n3_; clear n0_ n1_ n2_ n3_; clear hb hbox hg; have hcz5_0 : w4.cell? ⟨gb253, 0, none⟩ = some (.int .i64 a0_0) := (blk_cell BK253.out 0).trans rfl; have hcz5_1 : w4.cell? ⟨gb253, 1, none⟩ = some (.int .u32 a0_1) := (blk_cell BK253.out 1).trans rfl; have hcz5_2 : w4.cell? ⟨gb253, 2, none⟩ = some (.int .u32 a0_2) := (blk_cell BK253.out 2).trans rfl; have hcz5_3 : w4.cell? ⟨gb253, 3, none⟩ = some (.int .i64 a0_3) := (blk_cell BK253.out 3).trans rfl; have hcz5_4 : w4.cell? ⟨gb253, 4, none⟩ = some (.int .i64 a0_4) := (blk_cell BK253.out 4).trans rfl; have hcz5_5 : w4.cell? ⟨gb253, 5, none⟩ = some (.int .i64 a0_5) := (blk_cell BK253.out 5).trans rfl; have hcz5_6 : w4.cell? ⟨gb253, 6, none⟩ = some (.slice A0_6 l0_6.length c0_6) := (blk_cell BK253.out 6).trans rfl; have hcz5_7 : w4.cell? ⟨gb253, 7, none⟩ = some (.int .u64 a0_7) := (blk_cell BK253.out 7).trans rfl; have hcz5_8 : w4.cell? ⟨gb253, 8, none⟩ = some (.slice A0_8 l0_8.length c0_8) := (blk_cell BK253.out 8).trans rfl; have hfz5_0 := blk_frozen BK253.out 0; have hfz5_1 := blk_frozen BK253.out 1; have hfz5_2 := blk_frozen BK253.out 2; have hfz5_3 := blk_frozen BK253.out 3; have hfz5_4 := blk_frozen BK253.out 4; have hfz5_5 := blk_frozen BK253.out 5; have hfz5_6 := blk_frozen BK253.out 6; have hfz5_7 := blk_frozen BK253.out 7; have hfz5_8 := blk_frozen BK253.out 8) | ((with_reducible refine gate_callee (f := 21) rfl ?_); refine goesL_ (some 6) rfl rfl Try.func21 (by kernel_rfl) rfl #[.agg #[.int .i64 a0_0, .int .u32 a0_1, .int .u32 a0_2, .int .i64 a0_3, .int .i64 a0_4, .int .i64 a0_5, .slice A0_6 l0_6.length c0_6, .int .u64 a0_7, .slice A0_8 l0_8.length c0_8]] rfl (by (try simp only [List.map_toArray, List.map_cons, List.map_nil]); first | done | rfl | (simp only [List.length_drop, List.length_take]; rfl)) ?_; (with_reducible refine (redanref18_May.calls k a0_0 a0_1 a0_2 a0_3 a0_4 a0_5 _ _ l0_6 a0_7 _ _ l0_8 t254 _ ?side1 ?side2 ?side3 ?side4 A2.out).mono ?_); (case side1 => repeat (first | exact (Kd.C_below HR0_6.out HB.out) | (with_reducible refine Kd.C_alloc ?_ _) | (with_reducible refine Kd.C_drewN ?_ _) | (with_reducible refine Kd.C_drew ?_))); (case side2 => exact HC0_6.out); (case side3 => repeat (first | exact (Kd.C_below HR0_8.out HB.out) | (with_reducible refine Kd.C_alloc ?_ _) | (with_reducible refine Kd.C_drewN ?_ _) | (with_reducible refine Kd.C_drew ?_))); (case side4 => exact HC0_8.out); rintro e w6 ⟨rfl, hb⟩; refine ⟨_, rfl, ?_⟩; have n0_ := Aside0.mk (blk_below (g := gb253) (o := .cells #[.int .i64 a0_0, .int .u32 a0_1, .int .u32 a0_2, .int .i64 a0_3, .int .i64 a0_4, .int .i64 a0_5, .slice A0_6 l0_6.length c0_6, .int .u64 a0_7, .slice A0_8 l0_8.length c0_8] 46 (0, 0)) (by (with_reducible repeat (first | refine blk_drewN ?_ _ | refine blk_drew ?_ | refine blk_alloc ?_ _)); exact BK253.out) hb); have n1_ := Aside0.mk (below_step (by repeat (first | (with_reducible first | exact HB.out | apply below_alloc | apply pw_below_drewN | apply below_drew1 | refine below_set ?_ GE253.out) | exact HB.out)) hb); clear BK253; clear HB; have BK253 := n0_; have HB := n1_; clear n0_ n1_; (try clear hb); (try clear hb2); (try clear hk); (try clear hi)))
  (try simp only [Act.put, List.setIfInBounds_toArray, List.set_cons_zero, List.set_cons_succ])
  go_cut [13] (fun v13 wc => ∃ (kq : Nat) (x13_2 : Bool), v13 = .bool x13_2 ∧ Aside0 (redanref18_Signed.j0 kq x13_2 a0_0 a0_1 a0_2 a0_3 a0_4 a0_5 l0_6 a0_7 l0_8 = some r) ∧ Aside0 (kq ≤ k) ∧ Aside0 (wc.heap[gb253]? = some (.cells #[.int .i64 a0_0, .int .u32 a0_1, .int .u32 a0_2, .int .i64 a0_3, .int .i64 a0_4, .int .i64 a0_5, (.slice A0_6 l0_6.length c0_6), .int .u64 a0_7, (.slice A0_8 l0_8.length c0_8)] 46 (0, 0))) ∧ Aside0 (Below w.heap.size w wc))
  case first =>
    have H := HC3.out
    clear HC3
    by_cases c7 : t254 = true
    · subst c7
      have H1 : (redanref18_Signed.j0 k (a0_0 != 1) a0_0 a0_1 a0_2 a0_3 a0_4 a0_5 l0_6 a0_7 l0_8) = some r := by rw [if_pos rfl] at H; exact H
      clear H
      have H := H1
      clear H1
      have H' := Aside0.mk H
      clear H
      have hcz8_0 : w6.cell? ⟨gb253, 0, none⟩ = some (.int .i64 a0_0) := (blk_cell BK253.out 0).trans rfl
      have hcz8_1 : w6.cell? ⟨gb253, 1, none⟩ = some (.int .u32 a0_1) := (blk_cell BK253.out 1).trans rfl
      have hcz8_2 : w6.cell? ⟨gb253, 2, none⟩ = some (.int .u32 a0_2) := (blk_cell BK253.out 2).trans rfl
      have hcz8_3 : w6.cell? ⟨gb253, 3, none⟩ = some (.int .i64 a0_3) := (blk_cell BK253.out 3).trans rfl
      have hcz8_4 : w6.cell? ⟨gb253, 4, none⟩ = some (.int .i64 a0_4) := (blk_cell BK253.out 4).trans rfl
      have hcz8_5 : w6.cell? ⟨gb253, 5, none⟩ = some (.int .i64 a0_5) := (blk_cell BK253.out 5).trans rfl
      have hcz8_6 : w6.cell? ⟨gb253, 6, none⟩ = some (.slice A0_6 l0_6.length c0_6) := (blk_cell BK253.out 6).trans rfl
      have hcz8_7 : w6.cell? ⟨gb253, 7, none⟩ = some (.int .u64 a0_7) := (blk_cell BK253.out 7).trans rfl
      have hcz8_8 : w6.cell? ⟨gb253, 8, none⟩ = some (.slice A0_8 l0_8.length c0_8) := (blk_cell BK253.out 8).trans rfl
      have hfz8_0 := blk_frozen BK253.out 0
      have hfz8_1 := blk_frozen BK253.out 1
      have hfz8_2 := blk_frozen BK253.out 2
      have hfz8_3 := blk_frozen BK253.out 3
      have hfz8_4 := blk_frozen BK253.out 4
      have hfz8_5 := blk_frozen BK253.out 5
      have hfz8_6 := blk_frozen BK253.out 6
      have hfz8_7 := blk_frozen BK253.out 7
      have hfz8_8 := blk_frozen BK253.out 8
      go_wp2
      go_meet
      case rel => exact ⟨_, ((a0_0 != 1)), (by first | rfl | (simp; done) | (simp [*]; done)), H', ⟨by first | omega | exact Nat.le_refl _⟩, ⟨by (with_reducible repeat (first | refine blk_drewN ?_ _ | refine blk_drew ?_ | refine blk_alloc ?_ _)); exact BK253.out⟩, ⟨by repeat (first | (with_reducible first | exact HB.out | apply below_alloc | apply pw_below_drewN | apply below_drew1 | refine below_set ?_ GE253.out) | exact HB.out)⟩⟩
    · replace c7 := Bool.eq_false_iff.mpr c7
      subst c7
      have H1 : (redanref18_Signed.j0 k true a0_0 a0_1 a0_2 a0_3 a0_4 a0_5 l0_6 a0_7 l0_8) = some r := by rw [if_neg (show ¬ (false = true) by decide)] at H; exact H
      clear H
      have H := H1
      clear H1
      have H' := Aside0.mk H
      clear H
      go_wp2
      go_meet
      case rel => exact ⟨_, (true), (by first | rfl | (simp; done) | (simp [*]; done)), H', ⟨by first | omega | exact Nat.le_refl _⟩, ⟨by (with_reducible repeat (first | refine blk_drewN ?_ _ | refine blk_drew ?_ | refine blk_alloc ?_ _)); exact BK253.out⟩, ⟨by repeat (first | (with_reducible first | exact HB.out | apply below_alloc | apply pw_below_drewN | apply below_drew1 | refine below_set ?_ GE253.out) | exact HB.out)⟩⟩
  case rest =>
    clear HC3
    try clear c2
    try clear p2
    try clear c7
    try clear hcz5_0
    try clear hcz5_1
    try clear hcz5_2
    try clear hcz5_3
    try clear hcz5_4
    try clear hcz5_5
    try clear hcz5_6
    try clear hcz5_7
    try clear hcz5_8
    try clear hcz8_0
    try clear hcz8_1
    try clear hcz8_2
    try clear hcz8_3
    try clear hcz8_4
    try clear hcz8_5
    try clear hcz8_6
    try clear hcz8_7
    try clear hcz8_8
    try clear hfz5_0
    try clear hfz5_1
    try clear hfz5_2
    try clear hfz5_3
    try clear hfz5_4
    try clear hfz5_5
    try clear hfz5_6
    try clear hfz5_7
    try clear hfz5_8
    try clear hfz8_0
    try clear hfz8_1
    try clear hfz8_2
    try clear hfz8_3
    try clear hfz8_4
    try clear hfz8_5
    try clear hfz8_6
    try clear hfz8_7
    try clear hfz8_8
    obtain ⟨kq, x13_2, rfl, HA, HJ2, BK253, HB⟩ := hcut
    cases kq with
    | zero => exact absurd HA.out (by simp [redanref18_Signed.j0])
    | succ kj2 =>
      have H := HA.out
      clear HA
      simp only [redanref18_Signed.j0] at H
      by_cases c9 : x13_2 = true
      · subst c9
        have H1 : (some ([] : List Int)) = some r := by rw [if_pos rfl] at H; exact H
        clear H
        have H := H1
        clear H1
        obtain rfl := Option.some.inj H
        go_wp2
        go_ret
        exact ⟨_, by first | rfl | (simp [errW_none, errW_some] <;> rfl) | (simp [*, errW_none, errW_some] <;> rfl), by first | exact Kd.R_nil _ _ _ _ _ | exact Kd.N_nil _ _ _ _ _ | exact Kd.V_nil _ _ _ _ _ | exact Kd.Q_nil _ _ _ _ _ | exact Kd.S_nil _ _ _ _ _, by repeat (first | (with_reducible first | exact HB.out | apply below_alloc | apply pw_below_drewN | apply below_drew1 | refine below_set ?_ GE253.out) | exact HB.out)⟩
      · replace c9 := Bool.eq_false_iff.mpr c9
        subst c9
        have H1 : ((redanref18_Put.f kj2 a0_0 a0_1 a0_2 a0_3 a0_4 a0_5 l0_6 a0_7 l0_8).bind fun t255 => (if 12 ≤ (t255.length : Int) then (if 28 ≤ (t255.length : Int) then ((redanref01_Join.f (t255.take 12) (t255.drop 28)).bind fun t266 => (some t266)) else (none)) else (none))) = some r := by rw [if_neg (show ¬ (false = true) by decide)] at H; exact H
        clear H
        have H := H1
        clear H1
        replace H := Option.bind_eq_some_iff.mp H
        obtain ⟨t255, A100, H⟩ := H
        replace H : (if 12 ≤ (t255.length : Int) then (if 28 ≤ (t255.length : Int) then ((redanref01_Join.f (t255.take 12) (t255.drop 28)).bind fun t266 => (some t266)) else (none)) else (none)) = some r := H
        have A10 := Aside0.mk A100
        clear A100
        by_cases c11 : 12 ≤ (t255.length : Int)
        · rw [if_pos c11] at H
          have c11b0 := eq_true c11
          have c11b1 : decide (12 ≤ (t255.length : Int)) = true := decide_eq_true c11
          clear c11
          obtain ⟨y258, hy258⟩ : ∃ y_ : List Int, y_ = (t255.take 12) := ⟨_, rfl⟩
          replace H : (if 28 ≤ (t255.length : Int) then ((redanref01_Join.f y258 (t255.drop 28)).bind fun t266 => (some t266)) else (none)) = some r := by first | (rw [hy258]; with_reducible exact H) | (have H2_ := (Option.bind_some _ _).symm.trans H; rw [hy258]; with_reducible exact H2_) | (have H2_ := (Option.bind_some _ _).symm.trans H; with_reducible exact H2_) | with_reducible exact H | (rw [hy258]; exact H) | exact H
          have Ny258 := Aside0.mk hy258
          clear hy258
          by_cases c12 : 28 ≤ (t255.length : Int)
          · rw [if_pos c12] at H
            have c12b0 := eq_true c12
            have c12b1 : decide (28 ≤ (t255.length : Int)) = true := decide_eq_true c12
            clear c12
            obtain ⟨y262, hy262⟩ : ∃ y_ : List Int, y_ = (t255.drop 28) := ⟨_, rfl⟩
            replace H : ((redanref01_Join.f y258 y262).bind fun t266 => (some t266)) = some r := by first | (rw [hy262]; with_reducible exact H) | (have H2_ := (Option.bind_some _ _).symm.trans H; rw [hy262]; with_reducible exact H2_) | (have H2_ := (Option.bind_some _ _).symm.trans H; with_reducible exact H2_) | with_reducible exact H | (rw [hy262]; exact H) | exact H
            have Ny262 := Aside0.mk hy262
            clear hy262
            replace H := Option.bind_eq_some_iff.mp H
            obtain ⟨t266, A130, H⟩ := H
            replace H : (some t266) = some r := H
            have A13 := Aside0.mk A130
            clear A130
            obtain rfl := Option.some.inj H
            have hcz14_0 : wc.cell? ⟨gb253, 0, none⟩ = some (.int .i64 a0_0) := (blk_cell BK253.out 0).trans rfl
            have hcz14_1 : wc.cell? ⟨gb253, 1, none⟩ = some (.int .u32 a0_1) := (blk_cell BK253.out 1).trans rfl
            have hcz14_2 : wc.cell? ⟨gb253, 2, none⟩ = some (.int .u32 a0_2) := (blk_cell BK253.out 2).trans rfl
            have hcz14_3 : wc.cell? ⟨gb253, 3, none⟩ = some (.int .i64 a0_3) := (blk_cell BK253.out 3).trans rfl
            have hcz14_4 : wc.cell? ⟨gb253, 4, none⟩ = some (.int .i64 a0_4) := (blk_cell BK253.out 4).trans rfl
            have hcz14_5 : wc.cell? ⟨gb253, 5, none⟩ = some (.int .i64 a0_5) := (blk_cell BK253.out 5).trans rfl
            have hcz14_6 : wc.cell? ⟨gb253, 6, none⟩ = some (.slice A0_6 l0_6.length c0_6) := (blk_cell BK253.out 6).trans rfl
            have hcz14_7 : wc.cell? ⟨gb253, 7, none⟩ = some (.int .u64 a0_7) := (blk_cell BK253.out 7).trans rfl
            have hcz14_8 : wc.cell? ⟨gb253, 8, none⟩ = some (.slice A0_8 l0_8.length c0_8) := (blk_cell BK253.out 8).trans rfl
            have hfz14_0 := blk_frozen BK253.out 0
            have hfz14_1 := blk_frozen BK253.out 1
            have hfz14_2 := blk_frozen BK253.out 2
            have hfz14_3 := blk_frozen BK253.out 3
            have hfz14_4 := blk_frozen BK253.out 4
            have hfz14_5 := blk_frozen BK253.out 5
            have hfz14_6 := blk_frozen BK253.out 6
            have hfz14_7 := blk_frozen BK253.out 7
            have hfz14_8 := blk_frozen BK253.out 8
            try go_wp2_with (first | ((with_reducible refine gate_callee (f := 24) rfl ?_); refine goesL_ (some 15) rfl rfl Try.func24 (by kernel_rfl) rfl #[.agg #[.int .i64 a0_0, .int .u32 a0_1, .int .u32 a0_2, .int .i64 a0_3, .int .i64 a0_4, .int .i64 a0_5, .slice A0_6 l0_6.length c0_6, .int .u64 a0_7, .slice A0_8 l0_8.length c0_8]] rfl (by (try simp only [List.map_toArray, List.map_cons, List.map_nil]); first | done | rfl | (simp only [List.length_drop, List.length_take]; rfl)) ?_; (with_reducible refine (redanref18_Put.calls kj2 a0_0 a0_1 a0_2 a0_3 a0_4 a0_5 _ _ l0_6 a0_7 _ _ l0_8 t255 _ ?side1 ?side2 ?side3 ?side4 A10.out).mono ?_); (case side1 => repeat (first | exact (Kd.C_below HR0_6.out HB.out) | (with_reducible refine Kd.C_alloc ?_ _) | (with_reducible refine Kd.C_drewN ?_ _) | (with_reducible refine Kd.C_drew ?_))); (case side2 => exact HC0_6.out); (case side3 => repeat (first | exact (Kd.C_below HR0_8.out HB.out) | (with_reducible refine Kd.C_alloc ?_ _) | (with_reducible refine Kd.C_drewN ?_ _) | (with_reducible refine Kd.C_drew ?_))); (case side4 => exact HC0_8.out); rintro e w15 ⟨v256, rfl, ho0, hb⟩; refine ⟨_, rfl, ?_⟩; have n0_ := Aside0.mk (Kd.R_lower ho0 (below_size (by repeat (first | (with_reducible first | exact HB.out | apply below_alloc | apply pw_below_drewN | apply below_drew1 | refine below_set ?_ GE253.out) | exact HB.out)))); have n1_ := Aside0.mk (blk_below (g := gb253) (o := .cells #[.int .i64 a0_0, .int .u32 a0_1, .int .u32 a0_2, .int .i64 a0_3, .int .i64 a0_4, .int .i64 a0_5, .slice A0_6 l0_6.length c0_6, .int .u64 a0_7, .slice A0_8 l0_8.length c0_8] 46 (0, 0)) (by (with_reducible repeat (first | refine blk_drewN ?_ _ | refine blk_drew ?_ | refine blk_alloc ?_ _)); exact BK253.out) hb); have n2_ := Aside0.mk (below_step (by repeat (first | (with_reducible first | exact HB.out | apply below_alloc | apply pw_below_drewN | apply below_drew1 | refine below_set ?_ GE253.out) | exact HB.out)) hb); clear BK253; clear HB; have HO257 := n0_; have BK253 := n1_; have HB := n2_; clear n0_ n1_ n2_; (try clear hb); (try clear hb2); (try clear hk); (try clear hi); (try clear ho0)))
            have n0_ := Aside0.mk (Kd.R_drew HO257.out)
            have n1_ := Aside0.mk (blk_drew BK253.out)
            have n2_ := Aside0.mk (below_drew1 HB.out)
            clear HO257
            clear BK253
            clear HB
            have HO257 := n0_
            have BK253 := n1_
            have HB := n2_
            clear n0_ n1_ n2_
            obtain ⟨Ao18, co18, eo18⟩ := Kd.R_slice HO257.out
            (first | subst eo18 | (injection eo18 with f1_ f2_ f3_; have f4_ := f1_.symm; have f5_ := f3_.symm; clear f1_ f2_ f3_; subst f4_; subst f5_))
            have q17 : (12 : Int) ≤ ((t255.length : Int) : Int) := of_decide_eq_true (by first | (with_reducible assumption) | assumption)
            obtain ⟨i017, hi017, _, hsz17, _⟩ := info_parts info5
            have hroom17 : t255.length ≤ co18 := (Kd.R_reads' HO257.out).2.1
            have hC17 : Kd.C (Kd.int .u8) _ Ao18 t255.length t255 := (Kd.R_reads' HO257.out).2.2
            have hcut17 := cut_to (P := Try.prog) 37 5 .i64 Try.underlying37 hi017 Ao18 t255.length co18 12 (by omega) q17 hroom17
            have hr17 := Kd.C_take (m := 12) hC17 (by omega)
            have hy17 : y258.length = (12 : Int).toNat := (by rw [Ny258.out, List.length_take]; omega)
            rw [← Ny258.out] at hr17
            rw [← hy17] at hcut17
            have HR261 := Aside0.mk hr17
            have HC261 := Aside0.mk (show y258.length ≤ co18 from by omega)
            clear hr17 hC17 hroom17 hi017 hsz17
            have KY17 := Aside0.mk hy17
            clear hy17
            have KL17 := Aside0.mk (show 12 ≤ t255.length from by omega)
            replace q17 := eq_true q17
            have q19 : (28 : Int) ≤ ((t255.length : Int) : Int) := of_decide_eq_true (by first | (with_reducible assumption) | assumption)
            obtain ⟨i019, hi019, _, hsz19, _⟩ := info_parts info5
            have hroom19 : t255.length ≤ co18 := (Kd.R_reads' HO257.out).2.1
            have hC19 : Kd.C (Kd.int .u8) _ Ao18 t255.length t255 := (Kd.R_reads' HO257.out).2.2
            have hcut19 := cut_from (P := Try.prog) 37 5 .i64 Try.underlying37 hi019 1 hsz19 Ao18 t255.length co18 28 (by omega) q19
            have hr19 := Kd.C_drop (m := (28 : Int).toNat) (c := co18) hC19 (by omega) hroom19
            obtain ⟨A19, hA19⟩ : ∃ A1, A1 = (if co18 = (28 : Int).toNat then Ao18 else (Ao18 : Option Addr).map (·.add ((28 : Int).toNat * 1))) := ⟨_, rfl⟩
            obtain ⟨c19, hc19⟩ : ∃ c1, c1 = co18 - (28 : Int).toNat := ⟨_, rfl⟩
            have hy19 : y262.length = t255.length - (28 : Int).toNat := (by rw [Ny262.out, List.length_drop] <;> omega)
            rw [show (t255).drop (28 : Int).toNat = y262 from Ny262.out.symm] at hr19
            replace hr19 : Kd.C (Kd.int .u8) _ A19 y262.length y262 := (by rw [hA19]; exact hr19)
            rw [← hy19, ← hA19, ← hc19] at hcut19
            have HR265 := Aside0.mk hr19
            have HC265 := Aside0.mk (show y262.length ≤ c19 from by rw [hy19, hc19]; exact Nat.sub_le_sub_right hroom19 _)
            clear hr19 hC19 hroom19 hi019 hsz19 hc19
            have KY19 := Aside0.mk hy19
            have KA19 := Aside0.mk hA19
            clear hy19 hA19
            have KL19 := Aside0.mk (show 28 ≤ t255.length from by omega)
            replace q19 := eq_true q19
            refine start_ (n := 6) (S := fun w' => True) (ds := []) #[false, false, false, false, false, false] (by kernel_rfl) rfl rfl trivial (fun hHeld => ?_)
            generalize w15.drew = w16 at HO257 BK253 HB HR261 HR265 hHeld ⊢
            refine pure_ (i := 0) (N := some 16) (v := ?_) (a' := ?_) #[true, false, false, false, false, false] rfl rfl (by kernel_rfl) (fun _ _ _ h => h) (Or.inl ⟨by rfl, ?_⟩) ?_ ?_
            rotate_left
            · intro w'
              go_simp
              with_reducible rfl
            rotate_left
            · simp only [Act.put, List.setIfInBounds_toArray, List.set_cons_zero, List.set_cons_succ, i64_w, i32_w]
              rfl
            refine pure_ (i := 1) (N := some 17) (v := ?_) (a' := ?_) #[true, true, false, false, false, false] rfl rfl (by kernel_rfl) (fun _ _ _ h => h) (Or.inl ⟨by rfl, ?_⟩) ?_ ?_
            rotate_left
            · intro w'
              go_simp
              with_reducible rfl
            rotate_left
            · simp only [Act.put, List.setIfInBounds_toArray, List.set_cons_zero, List.set_cons_succ, i64_w, i32_w]
              rfl
            refine pure_ (i := 2) (N := some 18) (v := ?_) (a' := ?_) #[true, true, true, false, false, false] rfl rfl (by kernel_rfl) (fun _ _ _ h => h) (Or.inl ⟨by rfl, ?_⟩) ?_ ?_
            rotate_left
            · intro w'
              go_simp
              with_reducible rfl
            rotate_left
            · simp only [Act.put, List.setIfInBounds_toArray, List.set_cons_zero, List.set_cons_succ, i64_w, i32_w]
              rfl
            refine pure_ (i := 3) (N := some 19) (v := ?_) (a' := ?_) #[true, true, true, true, false, false] rfl rfl (by kernel_rfl) (fun _ _ _ h => h) (Or.inl ⟨by rfl, ?_⟩) ?_ ?_
            rotate_left
            · intro w'
              go_simp
              with_reducible rfl
            rotate_left
            · simp only [Act.put, List.setIfInBounds_toArray, List.set_cons_zero, List.set_cons_succ, i64_w, i32_w]
              rfl
            refine one_ (i := 4) (N := some 20) #[true, true, true, true, true, false] rfl rfl (by kernel_rfl) (by decide) (fun K hK => ?_)
            refine goes_ Try.func35 (by kernel_rfl) rfl #[.slice Ao18 y258.length co18, .slice A19 y262.length c19] (by rfl) rfl rfl (by (try simp only [List.map_toArray, List.map_cons, List.map_nil]); first | done | rfl | (simp only [List.length_drop, List.length_take]; rfl)) ?_
            with_reducible refine (redanref01_Join.calls _ _ y258 _ _ y262 t266 _ ?side1 ?side2 ?side3 ?side4 A13.out).mono ?_
            (case side1 => repeat (first | exact (by repeat (first | (with_reducible exact HR261.out) | (with_reducible refine Kd.C_alloc ?_ _) | (with_reducible refine Kd.C_drewN ?_ _) | (with_reducible refine Kd.C_drew ?_) | exact HR261.out)) | (with_reducible refine Kd.C_alloc ?_ _) | (with_reducible refine Kd.C_drewN ?_ _) | (with_reducible refine Kd.C_drew ?_)))
            (case side2 => exact HC261.out)
            (case side3 => repeat (first | exact (by repeat (first | (with_reducible exact HR265.out) | (with_reducible refine Kd.C_alloc ?_ _) | (with_reducible refine Kd.C_drewN ?_ _) | (with_reducible refine Kd.C_drew ?_) | exact HR265.out)) | (with_reducible refine Kd.C_alloc ?_ _) | (with_reducible refine Kd.C_drewN ?_ _) | (with_reducible refine Kd.C_drew ?_)))
            (case side4 => exact HC265.out)
            rintro e w20 ⟨v267, rfl, ho0, hb⟩
            refine ⟨_, rfl, ?_⟩
            have n0_ := Aside0.mk (Kd.R_elder' (by (with_reducible repeat (first | apply Kd.R_alloc | apply Kd.R_drewN | apply Kd.R_drew)); exact HO257.out) (Kd.R_base ho0) hb)
            have n1_ := Aside0.mk (Kd.R_lower (Kd.R_new' ho0 (Kd.R_lt (by (with_reducible repeat (first | apply Kd.R_alloc | apply Kd.R_drewN | apply Kd.R_drew)); exact HO257.out))) (below_size (by repeat (first | (with_reducible first | exact HB.out | apply below_alloc | apply pw_below_drewN | apply below_drew1 | refine below_set ?_ GE253.out) | exact HB.out))))
            have n2_ := Aside0.mk (blk_below (g := gb253) (o := .cells #[.int .i64 a0_0, .int .u32 a0_1, .int .u32 a0_2, .int .i64 a0_3, .int .i64 a0_4, .int .i64 a0_5, .slice A0_6 l0_6.length c0_6, .int .u64 a0_7, .slice A0_8 l0_8.length c0_8] 46 (0, 0)) (by (with_reducible repeat (first | refine blk_drewN ?_ _ | refine blk_drew ?_ | refine blk_alloc ?_ _)); exact BK253.out) hb)
            have n3_ := Aside0.mk (Kd.C_below (by repeat (first | (with_reducible exact HR261.out) | (with_reducible refine Kd.C_alloc ?_ _) | (with_reducible refine Kd.C_drewN ?_ _) | (with_reducible refine Kd.C_drew ?_) | exact HR261.out)) hb)
            have n4_ := Aside0.mk (Kd.C_below (by repeat (first | (with_reducible exact HR265.out) | (with_reducible refine Kd.C_alloc ?_ _) | (with_reducible refine Kd.C_drewN ?_ _) | (with_reducible refine Kd.C_drew ?_) | exact HR265.out)) hb)
            have n5_ := Aside0.mk (below_step (by repeat (first | (with_reducible first | exact HB.out | apply below_alloc | apply pw_below_drewN | apply below_drew1 | refine below_set ?_ GE253.out) | exact HB.out)) hb)
            clear HO257
            clear BK253
            clear HR261
            clear HR265
            clear HB
            have HO257 := n0_
            have HO268 := n1_
            have BK253 := n2_
            have HR261 := n3_
            have HR265 := n4_
            have HB := n5_
            clear n0_ n1_ n2_ n3_ n4_ n5_
            (try clear hb)
            (try clear hb2)
            (try clear hk)
            (try clear hi)
            (try clear ho0)
            refine hK.out _ _ trivial (fun hHeld => ?_)
            clear hK K
            refine norm_ (a' := ?_) ?_ ?_
            rotate_left
            · show Act.put _ (some 20) _ = _
              simp only [Act.put, List.setIfInBounds_toArray, List.set_cons_zero, List.set_cons_succ, i64_w, i32_w]
              rfl
            refine pure_ (i := 5) (N := some 2) (v := ?_) (a' := ?_) #[true, true, true, true, true, true] rfl rfl (by kernel_rfl) (fun _ _ _ h => h) (Or.inl ⟨by rfl, ?_⟩) ?_ ?_
            rotate_left
            · intro w'
              go_simp
              with_reducible rfl
            rotate_left
            · simp only [Act.put, List.setIfInBounds_toArray, List.set_cons_zero, List.set_cons_succ, i64_w, i32_w]
              rfl
            refine done_ (by kernel_rfl) ?_
            try go_wp2
            go_ret
            exact ⟨_, by first | rfl | (simp [errW_none, errW_some] <;> rfl) | (simp [*, errW_none, errW_some] <;> rfl), by (with_reducible repeat (first | apply Kd.R_alloc | apply Kd.R_drewN | apply Kd.R_drew)); exact Kd.R_mono HO268.out (fun _ hk => trivial), by repeat (first | (with_reducible first | exact HB.out | apply below_alloc | apply pw_below_drewN | apply below_drew1 | refine below_set ?_ GE253.out) | exact HB.out)⟩
          · rw [if_neg c12] at H
            exact absurd H (by simp)
        · rw [if_neg c11] at H
          exact absurd H (by simp)

end Go.Proofs.Ytkcjgkfgjbhfnaa.Wr
