-- contracts that the kit's print wrote for this claim, cut and mended by hand
import Derived.Test.YtkcjgkfgjbhfnaaHd
namespace Go.Proofs.Ytkcjgkfgjbhfnaa.Wr
open Go.RowKit Go.Proofs.YtkcjgkfgjbhfnaaW.PrintWords Go.Proofs.YtkcjgkfgjbhfnaaW.PrintLast Go.Proofs.YtkcjgkfgjbhfnaaW.PrintMore
attribute [local go_sem] max2_int min2_int max_two min_two max_three min_three max_four min_four   -- for this text's walks alone
set_option linter.unusedVariables false
set_option linter.unusedSimpArgs false

/-! ### wire_Put: function 20 -/
def wire_Put.f (k : Nat) (a0_0 : Int) (a0_1 : Int) (a0_2 : Int) (a0_3 : Int) (a0_4 : Int) (a0_5 : Int) (l0_6 : List Int) (a0_7 : Int) (l0_8 : List Int) : Option (List Int × Int) := (wire_may.f a0_0 a0_1 a0_2 a0_3 a0_4 a0_5 l0_6 a0_7 l0_8).bind fun t133 => (if t133 = true then (if a0_0 = 1 then ((wire_head.f k a0_0 a0_1 a0_2 a0_3 a0_4 a0_5 l0_6 a0_7 l0_8).bind fun t134 => ((words_Join.f k (([t134, l0_6, l0_8] : List (List Int)))).bind fun t140 => (some (t140, 0)))) else (if a0_0 = 2 then ((wire_four.f k a0_2).bind fun t146 => ((words_Join.f k (([(([2] : List Int)), t146, l0_6] : List (List Int)))).bind fun t152 => (some (t152, 0)))) else ((wire_four.f k a0_2).bind fun t158 => ((words_Store.f k a0_7 8).bind fun t161 => ((words_Join.f k (([(([(a0_0) % 256] : List Int)), t158, t161, l0_8] : List (List Int)))).bind fun t167 => (some (t167, 0))))))) else (some (([] : List Int), 1)))
theorem wire_Put.mono : ∀ a0 a1 a2 a3 a4 a5 a6 a7 a8 k, LeO (wire_Put.f k a0 a1 a2 a3 a4 a5 a6 a7 a8) (wire_Put.f (k + 1) a0 a1 a2 a3 a4 a5 a6 a7 a8) := by
  intro a0 a1 a2 a3 a4 a5 a6 a7 a8 k
  unfold wire_Put.f
  repeat' first
      | (with_reducible exact wire_four.mono _ _)
      | (with_reducible exact wire_head.mono _ _ _ _ _ _ _ _ _ _)
      | (with_reducible exact words_Join.mono _ _)
      | (with_reducible exact words_Store.mono _ _ _)
      | (with_reducible exact LeO.refl _)
      | (with_reducible exact LeO.none _)
      | (with_reducible refine LeO.ite ?_ ?_)
      | (with_reducible refine LeO.bind ?_ (fun _ => ?_))
      | exact wire_four.mono _ _
      | exact wire_head.mono _ _ _ _ _ _ _ _ _ _
      | exact words_Join.mono _ _
      | exact words_Store.mono _ _ _
      | exact LeO.none _
      | refine LeO.ite ?_ ?_
      | refine LeO.bind ?_ (fun _ => ?_)
def wire_Put.T5 : Bool × List (List Nat × List Nat) := (true, [([], []), ([0], [0]), ([], []), ([2], [2]), ([], []), ([4], [4]), ([1, 3, 5], [1, 3, 5]), ([6, 1], [6]), ([7, 7, 0, 1, 2, 3, 4, 5, 6, 7], [7]), ([8, 0, 1, 2, 3, 4, 5, 6, 7, 8], [])])
def wire_Put.B5 : List Nat := [0, 1, 0, 4, 0, 16, 63, 127, 255, 511]
theorem wire_Put.tab5 : rtab .any (opsOf Try.f20 5) = wire_Put.T5 := by kernel_rfl
theorem wire_Put.bits5 : waitsOk wire_Put.T5.2 wire_Put.B5 = true := by kernel_rfl
def wire_Put.T7 : Bool × List (List Nat × List Nat) := (true, [([], []), ([], []), ([1], [1]), ([2], [2]), ([], []), ([4], [4]), ([0, 3, 5], [0, 3, 5]), ([6, 3], [6]), ([7, 7, 0, 1, 2, 3, 4, 5, 6, 7], [7]), ([8, 0, 1, 2, 3, 4, 5, 6, 7, 8], [])])
def wire_Put.B7 : List Nat := [0, 0, 2, 6, 0, 16, 63, 127, 255, 511]
theorem wire_Put.tab7 : rtab .any (opsOf Try.f20 7) = wire_Put.T7 := by kernel_rfl
theorem wire_Put.bits7 : waitsOk wire_Put.T7.2 wire_Put.B7 = true := by kernel_rfl
def wire_Put.T8 : Bool × List (List Nat × List Nat) := (true, [([], []), ([0], [0]), ([1], [1]), ([2], [2]), ([], []), ([4], [4]), ([5], [5]), ([], []), ([7], [7]), ([8, 6], [8]), ([], []), ([10], [10]), ([3, 6, 9, 11], [3, 6, 9, 11]), ([12, 9], [12]), ([13, 13, 0, 1, 2, 3, 4, 5, 6, 7, 8, 9, 10, 11, 12, 13], [13]), ([14, 0, 1, 2, 3, 4, 5, 6, 7, 8, 9, 10, 11, 12, 13, 14], [])])
def wire_Put.B8 : List Nat := [0, 1, 3, 7, 0, 16, 48, 0, 128, 496, 0, 1024, 4095, 8191, 16383, 32767]
theorem wire_Put.tab8 : rtab .any (opsOf Try.f20 8) = wire_Put.T8 := by kernel_rfl
theorem wire_Put.bits8 : waitsOk wire_Put.T8.2 wire_Put.B8 = true := by kernel_rfl
set_option maxHeartbeats 8000000 in
set_option maxRecDepth 100000 in
theorem wire_Put.calls (k : Nat) (a0_0 : Int) (a0_1 : Int) (a0_2 : Int) (a0_3 : Int) (a0_4 : Int) (a0_5 : Int) (P0_6_ : Nat → Prop) (A0_6 : Option Addr) (c0_6 : Nat) (l0_6 : List Int) (a0_7 : Int) (P0_8_ : Nat → Prop) (A0_8 : Option Addr) (c0_8 : Nat) (l0_8 : List Int) (r1 : List Int) (r2 : Int) (w : World) (hs0_6 : Kd.V (Kd.int .u8) 5 w w.heap.size (fun k_ => P0_6_ k_) (.slice A0_6 l0_6.length c0_6) l0_6) (hs0_8 : Kd.V (Kd.int .u8) 5 w w.heap.size (fun k_ => P0_8_ k_) (.slice A0_8 l0_8.length c0_8) l0_8) (h : wire_Put.f k a0_0 a0_1 a0_2 a0_3 a0_4 a0_5 l0_6 a0_7 l0_8 = some (r1, r2)) :
    Calls Try.prog 20 #[.agg #[.int .i64 a0_0, .int .u32 a0_1, .int .u32 a0_2, .int .i64 a0_3, .int .i64 a0_4, .int .i64 a0_5, .slice A0_6 l0_6.length c0_6, .int .u64 a0_7, .slice A0_8 l0_8.length c0_8]] w fun e w' => ∃ v0_ : Value, e = .returned (.tuple #[v0_, .int .i64 r2]) ∧ Kd.R (Kd.int .u8) 5 w' w.heap.size (fun k_ => (w.heap.size ≤ k_)) v0_ r1 ∧ Below w.heap.size w w' := by
  have hu45 := Try.underlying45
  have HO0_6 := Aside0.mk (show Kd.V (Kd.int .u8) 5 w w.heap.size (fun k_ => ((P0_6_ k_ ∨ P0_8_ k_) ∨ w.heap.size ≤ k_)) (.slice A0_6 l0_6.length c0_6) l0_6 from Kd.V_mono hs0_6 (fun k_ hk => .inl (.inl hk)))
  have HO0_8 := Aside0.mk (show Kd.V (Kd.int .u8) 5 w w.heap.size (fun k_ => ((P0_6_ k_ ∨ P0_8_ k_) ∨ w.heap.size ≤ k_)) (.slice A0_8 l0_8.length c0_8) l0_8 from Kd.V_mono hs0_8 (fun k_ hk => .inl (.inr hk)))
  have HB := Aside0.mk (Below.refl w.heap.size w)
  have H : ((wire_may.f a0_0 a0_1 a0_2 a0_3 a0_4 a0_5 l0_6 a0_7 l0_8).bind fun t133 => (if t133 = true then (if a0_0 = 1 then ((wire_head.f k a0_0 a0_1 a0_2 a0_3 a0_4 a0_5 l0_6 a0_7 l0_8).bind fun t134 => ((words_Join.f k (([t134, l0_6, l0_8] : List (List Int)))).bind fun t140 => (some (t140, 0)))) else (if a0_0 = 2 then ((wire_four.f k a0_2).bind fun t146 => ((words_Join.f k (([(([2] : List Int)), t146, l0_6] : List (List Int)))).bind fun t152 => (some (t152, 0)))) else ((wire_four.f k a0_2).bind fun t158 => ((words_Store.f k a0_7 8).bind fun t161 => ((words_Join.f k (([(([(a0_0) % 256] : List Int)), t158, t161, l0_8] : List (List Int)))).bind fun t167 => (some (t167, 0))))))) else (some (([] : List Int), 1)))) = some (r1, r2) := h
  clear h
  replace H := Option.bind_eq_some_iff.mp H
  obtain ⟨t133, A20, H⟩ := H
  replace H : (if t133 = true then (if a0_0 = 1 then ((wire_head.f k a0_0 a0_1 a0_2 a0_3 a0_4 a0_5 l0_6 a0_7 l0_8).bind fun t134 => ((words_Join.f k (([t134, l0_6, l0_8] : List (List Int)))).bind fun t140 => (some (t140, 0)))) else (if a0_0 = 2 then ((wire_four.f k a0_2).bind fun t146 => ((words_Join.f k (([(([2] : List Int)), t146, l0_6] : List (List Int)))).bind fun t152 => (some (t152, 0)))) else ((wire_four.f k a0_2).bind fun t158 => ((words_Store.f k a0_7 8).bind fun t161 => ((words_Join.f k (([(([(a0_0) % 256] : List Int)), t158, t161, l0_8] : List (List Int)))).bind fun t167 => (some (t167, 0))))))) else (some (([] : List Int), 1))) = some (r1, r2) := H
  have A2 := Aside0.mk A20
  clear A20
  by_cases c3 : t133 = true
  · subst c3
    have H1 : (if a0_0 = 1 then ((wire_head.f k a0_0 a0_1 a0_2 a0_3 a0_4 a0_5 l0_6 a0_7 l0_8).bind fun t134 => ((words_Join.f k (([t134, l0_6, l0_8] : List (List Int)))).bind fun t140 => (some (t140, 0)))) else (if a0_0 = 2 then ((wire_four.f k a0_2).bind fun t146 => ((words_Join.f k (([(([2] : List Int)), t146, l0_6] : List (List Int)))).bind fun t152 => (some (t152, 0)))) else ((wire_four.f k a0_2).bind fun t158 => ((words_Store.f k a0_7 8).bind fun t161 => ((words_Join.f k (([(([(a0_0) % 256] : List Int)), t158, t161, l0_8] : List (List Int)))).bind fun t167 => (some (t167, 0))))))) = some (r1, r2) := by rw [if_pos rfl] at H; exact H
    clear H
    have H := H1
    clear H1
    by_cases c4 : a0_0 = 1
    · rw [if_pos c4] at H
      have c4b0 : (a0_0 == 1) = true := beq_iff_eq.mpr c4
      have c4b1 : (a0_0 != 1) = false := bne_eq_false_iff_eq.mpr c4
      clear c4
      replace H := Option.bind_eq_some_iff.mp H
      obtain ⟨t134, A50, H⟩ := H
      replace H : ((words_Join.f k (([t134, l0_6, l0_8] : List (List Int)))).bind fun t140 => (some (t140, 0))) = some (r1, r2) := H
      have A5 := Aside0.mk A50
      clear A50
      obtain ⟨y137, hy137⟩ : ∃ y_ : List (List Int), y_ = (([t134, l0_6, l0_8] : List (List Int))) := ⟨_, rfl⟩
      replace H : ((words_Join.f k y137).bind fun t140 => (some (t140, 0))) = some (r1, r2) := by first | (rw [hy137]; with_reducible exact H) | (have H2_ := (Option.bind_some _ _).symm.trans H; rw [hy137]; with_reducible exact H2_) | (have H2_ := (Option.bind_some _ _).symm.trans H; with_reducible exact H2_) | with_reducible exact H | (rw [hy137]; exact H) | exact H
      have Ny137 := Aside0.mk hy137
      clear hy137
      replace H := Option.bind_eq_some_iff.mp H
      obtain ⟨t140, A60, H⟩ := H
      replace H : (some (t140, 0)) = some (r1, r2) := H
      have A6 := Aside0.mk A60
      clear A60
      simp only [Option.some.injEq, Prod.mk.injEq] at H
      obtain ⟨rfl, rfl⟩ := H
      go_enter Try.func20, Try.ntmps20
      try go_wp2_with (first | ((with_reducible refine gate_dst (N := 1) rfl ?_); refine box_event ?hg (N := 1) ?hd (cs := #[.int .i64 a0_0, .int .u32 a0_1, .int .u32 a0_2, .int .i64 a0_3, .int .i64 a0_4, .int .i64 a0_5, .slice A0_6 l0_6.length c0_6, .int .u64 a0_7, .slice A0_8 l0_8.length c0_8]) (t := 45) ?hr ?_; (case hd => rfl); (case hg => rfl); (case hr => first | (go_simp; done) | (go_simp; rfl)); intro gb132 hg w7 hbox hb; have n0_ := Aside0.mk (Kd.V_below (Kd.V_elderB (by (with_reducible repeat (first | apply Kd.V_alloc | apply Kd.V_drewN | apply Kd.V_drew)); exact HO0_6.out) gb132 (Nat.le_of_eq hg.symm)) hb); have n1_ := Aside0.mk (Kd.V_below (Kd.V_elderB (by (with_reducible repeat (first | apply Kd.V_alloc | apply Kd.V_drewN | apply Kd.V_drew)); exact HO0_8.out) gb132 (Nat.le_of_eq hg.symm)) hb); have n2_ := Aside0.mk (below_step (by repeat (first | (with_reducible first | exact HB.out | apply below_alloc | apply pw_below_drewN | apply below_drew1) | exact HB.out)) hb); have n3_ := Aside0.mk (hbox); have n4_ := Aside0.mk ((by rw [hg]; exact (below_size (by repeat (first | (with_reducible first | exact HB.out | apply below_alloc | apply pw_below_drewN | apply below_drew1) | exact HB.out))) : w.heap.size ≤ gb132)); have n5_ := Aside0.mk ((by rw [hg]; exact (below_size (by repeat (first | (with_reducible first | exact HB.out | apply below_alloc | apply pw_below_drewN | apply below_drew1) | exact HB.out))) : w.heap.size ≤ gb132)); clear HO0_6; clear HO0_8; clear HB; have HO0_6 := n0_; have HO0_8 := n1_; have HB := n2_; have BK132 := n3_; have GW132 := n4_; have GE132 := n5_; clear n0_ n1_ n2_ n3_ n4_ n5_; clear hb hbox hg; have hcz8_0 : w7.cell? ⟨gb132, 0, none⟩ = some (.int .i64 a0_0) := (blk_cell BK132.out 0).trans rfl; have hcz8_1 : w7.cell? ⟨gb132, 1, none⟩ = some (.int .u32 a0_1) := (blk_cell BK132.out 1).trans rfl; have hcz8_2 : w7.cell? ⟨gb132, 2, none⟩ = some (.int .u32 a0_2) := (blk_cell BK132.out 2).trans rfl; have hcz8_3 : w7.cell? ⟨gb132, 3, none⟩ = some (.int .i64 a0_3) := (blk_cell BK132.out 3).trans rfl; have hcz8_4 : w7.cell? ⟨gb132, 4, none⟩ = some (.int .i64 a0_4) := (blk_cell BK132.out 4).trans rfl; have hcz8_5 : w7.cell? ⟨gb132, 5, none⟩ = some (.int .i64 a0_5) := (blk_cell BK132.out 5).trans rfl; have hcz8_6 : w7.cell? ⟨gb132, 6, none⟩ = some (.slice A0_6 l0_6.length c0_6) := (blk_cell BK132.out 6).trans rfl; have hcz8_7 : w7.cell? ⟨gb132, 7, none⟩ = some (.int .u64 a0_7) := (blk_cell BK132.out 7).trans rfl; have hcz8_8 : w7.cell? ⟨gb132, 8, none⟩ = some (.slice A0_8 l0_8.length c0_8) := (blk_cell BK132.out 8).trans rfl; have hfz8_0 := blk_frozen BK132.out 0; have hfz8_1 := blk_frozen BK132.out 1; have hfz8_2 := blk_frozen BK132.out 2; have hfz8_3 := blk_frozen BK132.out 3; have hfz8_4 := blk_frozen BK132.out 4; have hfz8_5 := blk_frozen BK132.out 5; have hfz8_6 := blk_frozen BK132.out 6; have hfz8_7 := blk_frozen BK132.out 7; have hfz8_8 := blk_frozen BK132.out 8) | ((with_reducible refine gate_callee (f := 30) rfl ?_); refine goesL_ (some 5) rfl rfl Try.func30 (by kernel_rfl) rfl #[.agg #[.int .i64 a0_0, .int .u32 a0_1, .int .u32 a0_2, .int .i64 a0_3, .int .i64 a0_4, .int .i64 a0_5, .slice A0_6 l0_6.length c0_6, .int .u64 a0_7, .slice A0_8 l0_8.length c0_8]] rfl (by (try simp only [List.map_toArray, List.map_cons, List.map_nil]); first | done | rfl | (simp only [List.length_drop, List.length_take]; rfl)) ?_; (with_reducible refine (wire_may.calls a0_0 a0_1 a0_2 a0_3 a0_4 a0_5 _ _ l0_6 a0_7 _ _ l0_8 true _ ?side1 ?side2 ?side3 ?side4 A2.out).mono ?_); (case side1 => repeat (first | exact (Kd.V_reads' HO0_6.out).2.2 | (with_reducible refine Kd.C_alloc ?_ _) | (with_reducible refine Kd.C_drewN ?_ _) | (with_reducible refine Kd.C_drew ?_))); (case side2 => exact (Kd.V_reads' HO0_6.out).2.1); (case side3 => repeat (first | exact (Kd.V_reads' HO0_8.out).2.2 | (with_reducible refine Kd.C_alloc ?_ _) | (with_reducible refine Kd.C_drewN ?_ _) | (with_reducible refine Kd.C_drew ?_))); (case side4 => exact (Kd.V_reads' HO0_8.out).2.1); rintro e w9 ⟨rfl, hb⟩; refine ⟨_, rfl, ?_⟩; have n0_ := Aside0.mk (Kd.V_below (by (with_reducible repeat (first | apply Kd.V_alloc | apply Kd.V_drewN | apply Kd.V_drew)); exact HO0_6.out) hb); have n1_ := Aside0.mk (Kd.V_below (by (with_reducible repeat (first | apply Kd.V_alloc | apply Kd.V_drewN | apply Kd.V_drew)); exact HO0_8.out) hb); have n2_ := Aside0.mk (blk_below (g := gb132) (o := .cells #[.int .i64 a0_0, .int .u32 a0_1, .int .u32 a0_2, .int .i64 a0_3, .int .i64 a0_4, .int .i64 a0_5, .slice A0_6 l0_6.length c0_6, .int .u64 a0_7, .slice A0_8 l0_8.length c0_8] 45 (0, 0)) (by (with_reducible repeat (first | refine blk_drewN ?_ _ | refine blk_drew ?_ | refine blk_alloc ?_ _)); exact BK132.out) hb); have n3_ := Aside0.mk (below_step (by repeat (first | (with_reducible first | exact HB.out | apply below_alloc | apply pw_below_drewN | apply below_drew1 | refine below_set ?_ GE132.out) | exact HB.out)) hb); clear HO0_6; clear HO0_8; clear BK132; clear HB; have HO0_6 := n0_; have HO0_8 := n1_; have BK132 := n2_; have HB := n3_; clear n0_ n1_ n2_ n3_; (try clear hb); (try clear hb2); (try clear hk); (try clear hi); have hcz10_0 : w9.cell? ⟨gb132, 0, none⟩ = some (.int .i64 a0_0) := (blk_cell BK132.out 0).trans rfl; have hcz10_1 : w9.cell? ⟨gb132, 1, none⟩ = some (.int .u32 a0_1) := (blk_cell BK132.out 1).trans rfl; have hcz10_2 : w9.cell? ⟨gb132, 2, none⟩ = some (.int .u32 a0_2) := (blk_cell BK132.out 2).trans rfl; have hcz10_3 : w9.cell? ⟨gb132, 3, none⟩ = some (.int .i64 a0_3) := (blk_cell BK132.out 3).trans rfl; have hcz10_4 : w9.cell? ⟨gb132, 4, none⟩ = some (.int .i64 a0_4) := (blk_cell BK132.out 4).trans rfl; have hcz10_5 : w9.cell? ⟨gb132, 5, none⟩ = some (.int .i64 a0_5) := (blk_cell BK132.out 5).trans rfl; have hcz10_6 : w9.cell? ⟨gb132, 6, none⟩ = some (.slice A0_6 l0_6.length c0_6) := (blk_cell BK132.out 6).trans rfl; have hcz10_7 : w9.cell? ⟨gb132, 7, none⟩ = some (.int .u64 a0_7) := (blk_cell BK132.out 7).trans rfl; have hcz10_8 : w9.cell? ⟨gb132, 8, none⟩ = some (.slice A0_8 l0_8.length c0_8) := (blk_cell BK132.out 8).trans rfl; have hfz10_0 := blk_frozen BK132.out 0; have hfz10_1 := blk_frozen BK132.out 1; have hfz10_2 := blk_frozen BK132.out 2; have hfz10_3 := blk_frozen BK132.out 3; have hfz10_4 := blk_frozen BK132.out 4; have hfz10_5 := blk_frozen BK132.out 5; have hfz10_6 := blk_frozen BK132.out 6; have hfz10_7 := blk_frozen BK132.out 7; have hfz10_8 := blk_frozen BK132.out 8))
      have n0_ := Aside0.mk (Kd.V_drew HO0_6.out)
      have n1_ := Aside0.mk (Kd.V_drew HO0_8.out)
      have n2_ := Aside0.mk (blk_drew BK132.out)
      have n3_ := Aside0.mk (below_drew1 HB.out)
      clear HO0_6
      clear HO0_8
      clear BK132
      clear HB
      have HO0_6 := n0_
      have HO0_8 := n1_
      have BK132 := n2_
      have HB := n3_
      clear n0_ n1_ n2_ n3_
      refine start_ (n := 10) (S := fun w' => w'.cell? ⟨gb132, 0, none⟩ = some (.int .i64 a0_0) ∧ w'.cell? ⟨gb132, 1, none⟩ = some (.int .u32 a0_1) ∧ w'.cell? ⟨gb132, 2, none⟩ = some (.int .u32 a0_2) ∧ w'.cell? ⟨gb132, 3, none⟩ = some (.int .i64 a0_3) ∧ w'.cell? ⟨gb132, 4, none⟩ = some (.int .i64 a0_4) ∧ w'.cell? ⟨gb132, 5, none⟩ = some (.int .i64 a0_5) ∧ w'.cell? ⟨gb132, 6, none⟩ = some (.slice A0_6 l0_6.length c0_6) ∧ w'.cell? ⟨gb132, 7, none⟩ = some (.int .u64 a0_7) ∧ w'.cell? ⟨gb132, 8, none⟩ = some (.slice A0_8 l0_8.length c0_8)) (ds := []) #[false, false, false, false, false, false, false, false, false, false] (by kernel_rfl) rfl rfl ⟨(blk_cell BK132.out 0).trans rfl, (blk_cell BK132.out 1).trans rfl, (blk_cell BK132.out 2).trans rfl, (blk_cell BK132.out 3).trans rfl, (blk_cell BK132.out 4).trans rfl, (blk_cell BK132.out 5).trans rfl, (blk_cell BK132.out 6).trans rfl, (blk_cell BK132.out 7).trans rfl, (blk_cell BK132.out 8).trans rfl⟩ (fun hHeld => ?_); refine with_tabW wire_Put.tab5 wire_Put.bits5 (fun HT_ HW_ => ?_)
      generalize w9.drew = w11 at HO0_6 HO0_8 BK132 HB hHeld ⊢
      refine pure_ (i := 2) (N := some 13) (v := ?_) (a' := ?_) #[false, false, true, false, false, false, false, false, false, false] rfl rfl (any_of HT_.out (by kernel_rfl)) (fun _ _ _ h => h) (Or.inl ⟨by rfl, ?_⟩) ?_ ?_
      rotate_left
      · intro w'
        go_simp
        with_reducible rfl
      rotate_left
      · simp only [Act.put, List.setIfInBounds_toArray, List.set_cons_zero, List.set_cons_succ, i64_w, i32_w]
        rfl
      refine pure_ (i := 4) (N := some 15) (v := ?_) (a' := ?_) #[false, false, true, false, true, false, false, false, false, false] rfl rfl (any_of HT_.out (by kernel_rfl)) (fun _ _ _ h => h) (Or.inl ⟨by rfl, ?_⟩) ?_ ?_
      rotate_left
      · intro w'
        go_simp
        with_reducible rfl
      rotate_left
      · simp only [Act.put, List.setIfInBounds_toArray, List.set_cons_zero, List.set_cons_succ, i64_w, i32_w]
        rfl
      refine take_ (i := 0) (N := some 11) (v := ?_) (a' := ?_) #[true, false, true, false, true, false, false, false, false, false] rfl rfl (take_ofW HT_.out HW_.out (by kernel_rfl)) (fun _ _ _ h => h) (Or.inl ⟨by rfl, ?_⟩) hHeld ?_ ?_
      rotate_left
      · rintro w' ⟨s0, s1, s2, s3, s4, s5, s6, s7, s8⟩
        go_simp
        with_reducible rfl
      rotate_left
      · simp only [Act.put, List.setIfInBounds_toArray, List.set_cons_zero, List.set_cons_succ, i64_w, i32_w]
        rfl
      refine take_ (i := 3) (N := some 14) (v := ?_) (a' := ?_) #[true, false, true, true, true, false, false, false, false, false] rfl rfl (take_ofW HT_.out HW_.out (by kernel_rfl)) (fun _ _ _ h => h) (Or.inl ⟨by rfl, ?_⟩) hHeld ?_ ?_
      rotate_left
      · rintro w' ⟨s0, s1, s2, s3, s4, s5, s6, s7, s8⟩
        go_simp
        with_reducible rfl
      rotate_left
      · simp only [Act.put, List.setIfInBounds_toArray, List.set_cons_zero, List.set_cons_succ, i64_w, i32_w]
        rfl
      refine take_ (i := 5) (N := some 16) (v := ?_) (a' := ?_) #[true, false, true, true, true, true, false, false, false, false] rfl rfl (take_ofW HT_.out HW_.out (by kernel_rfl)) (fun _ _ _ h => h) (Or.inl ⟨by rfl, ?_⟩) hHeld ?_ ?_
      rotate_left
      · rintro w' ⟨s0, s1, s2, s3, s4, s5, s6, s7, s8⟩
        go_simp
        with_reducible rfl
      rotate_left
      · simp only [Act.put, List.setIfInBounds_toArray, List.set_cons_zero, List.set_cons_succ, i64_w, i32_w]
        rfl
      refine one_ (i := 1) (N := some 12) #[true, true, true, true, true, true, false, false, false, false] rfl rfl (one_of HT_.out (by kernel_rfl)) (by decide) (fun K hK => ?_)
      refine goes_ Try.func32 (by kernel_rfl) rfl #[.agg #[.int .i64 a0_0, .int .u32 a0_1, .int .u32 a0_2, .int .i64 a0_3, .int .i64 a0_4, .int .i64 a0_5, .slice A0_6 l0_6.length c0_6, .int .u64 a0_7, .slice A0_8 l0_8.length c0_8]] (by rfl) rfl rfl (by (try simp only [List.map_toArray, List.map_cons, List.map_nil]); first | done | rfl | (simp only [List.length_drop, List.length_take]; rfl)) ?_
      with_reducible refine (wire_head.calls k a0_0 a0_1 a0_2 a0_3 a0_4 a0_5 _ _ l0_6 a0_7 _ _ l0_8 t134 _ ?side1 ?side2 ?side3 ?side4 A5.out).mono ?_
      (case side1 => repeat (first | exact (Kd.V_reads' HO0_6.out).2.2 | (with_reducible refine Kd.C_alloc ?_ _) | (with_reducible refine Kd.C_drewN ?_ _) | (with_reducible refine Kd.C_drew ?_)))
      (case side2 => exact (Kd.V_reads' HO0_6.out).2.1)
      (case side3 => repeat (first | exact (Kd.V_reads' HO0_8.out).2.2 | (with_reducible refine Kd.C_alloc ?_ _) | (with_reducible refine Kd.C_drewN ?_ _) | (with_reducible refine Kd.C_drew ?_)))
      (case side4 => exact (Kd.V_reads' HO0_8.out).2.1)
      rintro e w12 ⟨v135, rfl, ho0, hb⟩
      refine ⟨_, rfl, ?_⟩
      have n0_ := Aside0.mk (Kd.V_elder' (by (with_reducible repeat (first | apply Kd.V_alloc | apply Kd.V_drewN | apply Kd.V_drew)); exact HO0_6.out) (Kd.R_base ho0) hb)
      have n1_ := Aside0.mk (Kd.V_elder' (by (with_reducible repeat (first | apply Kd.V_alloc | apply Kd.V_drewN | apply Kd.V_drew)); exact HO0_8.out) (Kd.R_base ho0) hb)
      have n2_ := Aside0.mk (Kd.R_lower (Kd.R_newM (M := fun k_ => (w.heap.size ≤ k_)) ho0 (below_size (by repeat (first | (with_reducible first | exact HB.out | apply below_alloc | apply pw_below_drewN | apply below_drew1 | refine below_set ?_ GE132.out) | exact HB.out))) (fun k_ h_ => h_)) (below_size (by repeat (first | (with_reducible first | exact HB.out | apply below_alloc | apply pw_below_drewN | apply below_drew1 | refine below_set ?_ GE132.out) | exact HB.out))))
      have n3_ := Aside0.mk (blk_below (g := gb132) (o := .cells #[.int .i64 a0_0, .int .u32 a0_1, .int .u32 a0_2, .int .i64 a0_3, .int .i64 a0_4, .int .i64 a0_5, .slice A0_6 l0_6.length c0_6, .int .u64 a0_7, .slice A0_8 l0_8.length c0_8] 45 (0, 0)) (by (with_reducible repeat (first | refine blk_drewN ?_ _ | refine blk_drew ?_ | refine blk_alloc ?_ _)); exact BK132.out) hb)
      have n4_ := Aside0.mk (below_step (by repeat (first | (with_reducible first | exact HB.out | apply below_alloc | apply pw_below_drewN | apply below_drew1 | refine below_set ?_ GE132.out) | exact HB.out)) hb)
      clear HO0_6
      clear HO0_8
      clear BK132
      clear HB
      have HO0_6 := n0_
      have HO0_8 := n1_
      have HO136 := n2_
      have BK132 := n3_
      have HB := n4_
      clear n0_ n1_ n2_ n3_ n4_
      (try clear hb)
      (try clear hb2)
      (try clear hk)
      (try clear hi)
      (try clear ho0)
      obtain ⟨Ao13, co13, eo13⟩ := Kd.R_slice HO136.out
      (first | subst eo13 | (injection eo13 with f1_ f2_ f3_; have f4_ := f1_.symm; have f5_ := f3_.symm; clear f1_ f2_ f3_; subst f4_; subst f5_))
      refine hK.out _ _ ⟨(blk_cell BK132.out 0).trans rfl, (blk_cell BK132.out 1).trans rfl, (blk_cell BK132.out 2).trans rfl, (blk_cell BK132.out 3).trans rfl, (blk_cell BK132.out 4).trans rfl, (blk_cell BK132.out 5).trans rfl, (blk_cell BK132.out 6).trans rfl, (blk_cell BK132.out 7).trans rfl, (blk_cell BK132.out 8).trans rfl⟩ (fun hHeld => ?_)
      clear hK K
      refine norm_ (a' := ?_) ?_ ?_
      rotate_left
      · show Act.put _ (some 12) _ = _
        simp only [Act.put, List.setIfInBounds_toArray, List.set_cons_zero, List.set_cons_succ, i64_w, i32_w]
        rfl
      refine one_ (i := 6) (N := some 17) #[true, true, true, true, true, true, true, false, false, false] rfl rfl (one_of HT_.out (by kernel_rfl)) (by decide) (fun K hK => ?_)
      refine Kd.N_lit_step (Kd.slice 5 (Kd.int .u8)) _ 37 ?hg (N' := 17) ?hd (xs := ([t134, l0_6, l0_8] : List (List Int))) (inner := [.slice Ao13 t134.length co13, .slice A0_6 l0_6.length c0_6, .slice A0_8 l0_8.length c0_8]) (ok := (fun k_ => ((P0_6_ k_ ∨ P0_8_ k_) ∨ w.heap.size ≤ k_) ∧ k_ ≠ gb132)) (okp := (fun k_ => ((P0_6_ k_ ∨ P0_8_ k_) ∨ w.heap.size ≤ k_) ∧ k_ ≠ gb132)) ?hr ?hp (fun _ hk => hk) ((show ∀ k_, w12.heap.size ≤ k_ → (fun k_ => ((P0_6_ k_ ∨ P0_8_ k_) ∨ w.heap.size ≤ k_) ∧ k_ ≠ gb132) k_ from fun k_ hk => ⟨(.inr (Nat.le_trans (below_size (by repeat (first | (with_reducible first | exact HB.out | apply below_alloc | apply pw_below_drewN | apply below_drew1 | refine below_set ?_ GE132.out) | exact HB.out))) hk)), Kd.freshB (g := gb132) (o := .cells #[.int .i64 a0_0, .int .u32 a0_1, .int .u32 a0_2, .int .i64 a0_3, .int .i64 a0_4, .int .i64 a0_5, .slice A0_6 l0_6.length c0_6, .int .u64 a0_7, .slice A0_8 l0_8.length c0_8] 45 (0, 0)) (by (with_reducible repeat (first | refine blk_drewN ?_ _ | refine blk_drew ?_ | refine blk_alloc ?_ _)); exact BK132.out) k_ hk⟩) _ (Nat.le_refl _)) (Below.refl _ _) (Nat.le_refl _) (by simp) ?_; (case hd => rfl); (case hg => rfl); (case hr => first | (go_simp; done) | (go_simp; rfl)); (case hp => exact (Reps.one (show Kd.FK (Kd.slice 5 (Kd.int .u8)) _ _ t134 [.slice Ao13 t134.length co13] from (Kd.FK_slice_mk (Kd.R_reads' (Kd.R_mono (ok' := (fun k_ => ((P0_6_ k_ ∨ P0_8_ k_) ∨ w.heap.size ≤ k_) ∧ k_ ≠ gb132)) (Kd.R_types (HO136.out) BK132.out (by decide)) (fun k_ hk => ⟨(.inr (hk.1.1)), hk.2⟩))).2.1 (Kd.R_F (Kd.R_mono (ok' := (fun k_ => ((P0_6_ k_ ∨ P0_8_ k_) ∨ w.heap.size ≤ k_) ∧ k_ ≠ gb132)) (Kd.R_types (HO136.out) BK132.out (by decide)) (fun k_ hk => ⟨(.inr (hk.1.1)), hk.2⟩))))) (Reps.one (show Kd.FK (Kd.slice 5 (Kd.int .u8)) _ _ l0_6 [.slice A0_6 l0_6.length c0_6] from (Kd.FK_slice_mk (Kd.V_reads' (Kd.V_mono (ok' := (fun k_ => ((P0_6_ k_ ∨ P0_8_ k_) ∨ w.heap.size ≤ k_) ∧ k_ ≠ gb132)) (HO0_6.out) (fun k_ hk => ⟨hk.1.1, hk.1.2⟩))).2.1 (Kd.V_F (Kd.V_mono (ok' := (fun k_ => ((P0_6_ k_ ∨ P0_8_ k_) ∨ w.heap.size ≤ k_) ∧ k_ ≠ gb132)) (HO0_6.out) (fun k_ hk => ⟨hk.1.1, hk.1.2⟩))))) (Reps.one (show Kd.FK (Kd.slice 5 (Kd.int .u8)) _ _ l0_8 [.slice A0_8 l0_8.length c0_8] from (Kd.FK_slice_mk (Kd.V_reads' (Kd.V_mono (ok' := (fun k_ => ((P0_6_ k_ ∨ P0_8_ k_) ∨ w.heap.size ≤ k_) ∧ k_ ≠ gb132)) (HO0_8.out) (fun k_ hk => ⟨hk.1.1, hk.1.2⟩))).2.1 (Kd.V_F (Kd.V_mono (ok' := (fun k_ => ((P0_6_ k_ ∨ P0_8_ k_) ∨ w.heap.size ≤ k_) ∧ k_ ≠ gb132)) (HO0_8.out) (fun k_ hk => ⟨hk.1.1, hk.1.2⟩))))) (Reps.none _ _)))))
      intro v138 w14 ho15 hb hg_ hnew_
      clear hg_ hnew_
      (first | rw [← Ny137.out] at ho15 | (simp only [Int.reduceToNat] at ho15; rw [← Ny137.out] at ho15))
      have n0_ := Aside0.mk (Kd.V_elder' (by (with_reducible repeat (first | apply Kd.V_alloc | apply Kd.V_drewN | apply Kd.V_drew)); exact HO0_6.out) (Kd.N_base ho15) hb)
      have n1_ := Aside0.mk (Kd.V_elder' (by (with_reducible repeat (first | apply Kd.V_alloc | apply Kd.V_drewN | apply Kd.V_drew)); exact HO0_8.out) (Kd.N_base ho15) hb)
      have n2_ := Aside0.mk (Kd.N_lower ho15 (below_size (by repeat (first | (with_reducible first | exact HB.out | apply below_alloc | apply pw_below_drewN | apply below_drew1 | refine below_set ?_ GE132.out) | exact HB.out))))
      have n3_ := Aside0.mk (blk_below (g := gb132) (o := .cells #[.int .i64 a0_0, .int .u32 a0_1, .int .u32 a0_2, .int .i64 a0_3, .int .i64 a0_4, .int .i64 a0_5, .slice A0_6 l0_6.length c0_6, .int .u64 a0_7, .slice A0_8 l0_8.length c0_8] 45 (0, 0)) (by (with_reducible repeat (first | refine blk_drewN ?_ _ | refine blk_drew ?_ | refine blk_alloc ?_ _)); exact BK132.out) hb)
      have n4_ := Aside0.mk (below_step (by repeat (first | (with_reducible first | exact HB.out | apply below_alloc | apply pw_below_drewN | apply below_drew1 | refine below_set ?_ GE132.out) | exact HB.out)) hb)
      clear HO0_6
      clear HO0_8
      clear BK132
      clear HB
      clear HO136
      have HO0_6 := n0_
      have HO0_8 := n1_
      have HO139 := n2_
      have BK132 := n3_
      have HB := n4_
      clear n0_ n1_ n2_ n3_ n4_
      clear hb ho15
      obtain ⟨Ao16, co16, eo16⟩ := Kd.N_slice HO139.out
      (first | subst eo16 | (injection eo16 with f1_ f2_ f3_; have f4_ := f1_.symm; have f5_ := f3_.symm; clear f1_ f2_ f3_; subst f4_; subst f5_))
      refine hK.out _ _ ⟨(blk_cell BK132.out 0).trans rfl, (blk_cell BK132.out 1).trans rfl, (blk_cell BK132.out 2).trans rfl, (blk_cell BK132.out 3).trans rfl, (blk_cell BK132.out 4).trans rfl, (blk_cell BK132.out 5).trans rfl, (blk_cell BK132.out 6).trans rfl, (blk_cell BK132.out 7).trans rfl, (blk_cell BK132.out 8).trans rfl⟩ (fun hHeld => ?_)
      clear hK K
      refine norm_ (a' := ?_) ?_ ?_
      rotate_left
      · show Act.put _ (some 17) _ = _
        simp only [Act.put, List.setIfInBounds_toArray, List.set_cons_zero, List.set_cons_succ, i64_w, i32_w]
        rfl
      refine one_ (i := 7) (N := some 18) #[true, true, true, true, true, true, true, true, false, false] rfl rfl (one_of HT_.out (by kernel_rfl)) (by decide) (fun K hK => ?_)
      refine goes_ Try.func31 (by kernel_rfl) rfl #[.slice Ao16 y137.length co16] (by rfl) rfl rfl (by (try simp only [List.map_toArray, List.map_cons, List.map_nil]); first | done | rfl | (simp only [List.length_drop, List.length_take]; rfl)) ?_
      with_reducible refine (words_Join.calls k _ _ y137 t140 _ ?side1 ?side2 A6.out).mono ?_
      (case side1 => repeat (first | exact (Kd.N_reads' HO139.out).2.2 | (with_reducible refine Kd.C_alloc ?_ _) | (with_reducible refine Kd.C_drewN ?_ _) | (with_reducible refine Kd.C_drew ?_)))
      (case side2 => exact (Kd.N_reads' HO139.out).2.1)
      rintro e w17 ⟨v141, rfl, ho0, hb⟩
      refine ⟨_, rfl, ?_⟩
      have n0_ := Aside0.mk (Kd.V_elder' (by (with_reducible repeat (first | apply Kd.V_alloc | apply Kd.V_drewN | apply Kd.V_drew)); exact HO0_6.out) (Kd.R_base ho0) hb)
      have n1_ := Aside0.mk (Kd.V_elder' (by (with_reducible repeat (first | apply Kd.V_alloc | apply Kd.V_drewN | apply Kd.V_drew)); exact HO0_8.out) (Kd.R_base ho0) hb)
      have n2_ := Aside0.mk (Kd.N_elder' (by (with_reducible repeat (first | apply Kd.N_alloc | apply Kd.N_drewN | apply Kd.N_drew)); exact HO139.out) (Kd.R_base ho0) hb)
      have n3_ := Aside0.mk (Kd.R_lower (Kd.R_newM (M := fun k_ => (w.heap.size ≤ k_)) ho0 (below_size (by repeat (first | (with_reducible first | exact HB.out | apply below_alloc | apply pw_below_drewN | apply below_drew1 | refine below_set ?_ GE132.out) | exact HB.out))) (fun k_ h_ => h_)) (below_size (by repeat (first | (with_reducible first | exact HB.out | apply below_alloc | apply pw_below_drewN | apply below_drew1 | refine below_set ?_ GE132.out) | exact HB.out))))
      have n4_ := Aside0.mk (blk_below (g := gb132) (o := .cells #[.int .i64 a0_0, .int .u32 a0_1, .int .u32 a0_2, .int .i64 a0_3, .int .i64 a0_4, .int .i64 a0_5, .slice A0_6 l0_6.length c0_6, .int .u64 a0_7, .slice A0_8 l0_8.length c0_8] 45 (0, 0)) (by (with_reducible repeat (first | refine blk_drewN ?_ _ | refine blk_drew ?_ | refine blk_alloc ?_ _)); exact BK132.out) hb)
      have n5_ := Aside0.mk (below_step (by repeat (first | (with_reducible first | exact HB.out | apply below_alloc | apply pw_below_drewN | apply below_drew1 | refine below_set ?_ GE132.out) | exact HB.out)) hb)
      clear HO0_6
      clear HO0_8
      clear HO139
      clear BK132
      clear HB
      have HO0_6 := n0_
      have HO0_8 := n1_
      have HO139 := n2_
      have HO142 := n3_
      have BK132 := n4_
      have HB := n5_
      clear n0_ n1_ n2_ n3_ n4_ n5_
      (try clear hb)
      (try clear hb2)
      (try clear hk)
      (try clear hi)
      (try clear ho0)
      refine hK.out _ _ ⟨(blk_cell BK132.out 0).trans rfl, (blk_cell BK132.out 1).trans rfl, (blk_cell BK132.out 2).trans rfl, (blk_cell BK132.out 3).trans rfl, (blk_cell BK132.out 4).trans rfl, (blk_cell BK132.out 5).trans rfl, (blk_cell BK132.out 6).trans rfl, (blk_cell BK132.out 7).trans rfl, (blk_cell BK132.out 8).trans rfl⟩ (fun hHeld => ?_)
      clear hK K
      refine norm_ (a' := ?_) ?_ ?_
      rotate_left
      · show Act.put _ (some 18) _ = _
        simp only [Act.put, List.setIfInBounds_toArray, List.set_cons_zero, List.set_cons_succ, i64_w, i32_w]
        rfl
      refine pure_ (i := 8) (N := some 2) (v := ?_) (a' := ?_) #[true, true, true, true, true, true, true, true, true, false] rfl rfl (any_of HT_.out (by kernel_rfl)) (fun _ _ _ h => h) (Or.inl ⟨by rfl, ?_⟩) ?_ ?_
      rotate_left
      · intro w'
        go_simp
        with_reducible rfl
      rotate_left
      · simp only [Act.put, List.setIfInBounds_toArray, List.set_cons_zero, List.set_cons_succ, i64_w, i32_w]
        rfl
      refine pure_ (i := 9) (N := some 3) (v := ?_) (a' := ?_) #[true, true, true, true, true, true, true, true, true, true] rfl rfl (any_of HT_.out (by kernel_rfl)) (fun _ _ _ h => h) (Or.inl ⟨by rfl, ?_⟩) ?_ ?_
      rotate_left
      · intro w'
        go_simp
        with_reducible rfl
      rotate_left
      · simp only [Act.put, List.setIfInBounds_toArray, List.set_cons_zero, List.set_cons_succ, i64_w, i32_w]
        rfl
      refine done_ (done_of HT_.out (by kernel_rfl)) ?_
      try go_wp2
      go_ret2
      exact ⟨_, by first | rfl | (simp [errW_none, errW_some] <;> rfl) | (simp [*, errW_none, errW_some] <;> rfl), by (with_reducible repeat (first | apply Kd.R_alloc | apply Kd.R_drewN | apply Kd.R_drew)); exact Kd.R_mono HO142.out (fun _ hk => hk.1), by repeat (first | (with_reducible first | exact HB.out | apply below_alloc | apply pw_below_drewN | apply below_drew1 | refine below_set ?_ GE132.out) | exact HB.out)⟩
    · rw [if_neg c4] at H
      have c4b0 : (a0_0 == 1) = false := beq_eq_false_iff_ne.mpr c4
      have c4b1 : (a0_0 != 1) = true := bne_iff_ne.mpr c4
      by_cases c18 : a0_0 = 2
      · rw [if_pos c18] at H
        have c18b0 : (a0_0 == 2) = true := beq_iff_eq.mpr c18
        have c18b1 : (a0_0 != 2) = false := bne_eq_false_iff_eq.mpr c18
        clear c18
        obtain ⟨y143, hy143⟩ : ∃ y_ : List Int, y_ = (([2] : List Int)) := ⟨_, rfl⟩
        replace H : ((wire_four.f k a0_2).bind fun t146 => ((words_Join.f k (([y143, t146, l0_6] : List (List Int)))).bind fun t152 => (some (t152, 0)))) = some (r1, r2) := by first | (rw [hy143]; with_reducible exact H) | (have H2_ := (Option.bind_some _ _).symm.trans H; rw [hy143]; with_reducible exact H2_) | (have H2_ := (Option.bind_some _ _).symm.trans H; with_reducible exact H2_) | with_reducible exact H | (rw [hy143]; exact H) | exact H
        have Ny143 := Aside0.mk hy143
        clear hy143
        replace H := Option.bind_eq_some_iff.mp H
        obtain ⟨t146, A190, H⟩ := H
        replace H : ((words_Join.f k (([y143, t146, l0_6] : List (List Int)))).bind fun t152 => (some (t152, 0))) = some (r1, r2) := H
        have A19 := Aside0.mk A190
        clear A190
        obtain ⟨y149, hy149⟩ : ∃ y_ : List (List Int), y_ = (([y143, t146, l0_6] : List (List Int))) := ⟨_, rfl⟩
        replace H : ((words_Join.f k y149).bind fun t152 => (some (t152, 0))) = some (r1, r2) := by first | (rw [hy149]; with_reducible exact H) | (have H2_ := (Option.bind_some _ _).symm.trans H; rw [hy149]; with_reducible exact H2_) | (have H2_ := (Option.bind_some _ _).symm.trans H; with_reducible exact H2_) | with_reducible exact H | (rw [hy149]; exact H) | exact H
        have Ny149 := Aside0.mk hy149
        clear hy149
        replace H := Option.bind_eq_some_iff.mp H
        obtain ⟨t152, A200, H⟩ := H
        replace H : (some (t152, 0)) = some (r1, r2) := H
        have A20 := Aside0.mk A200
        clear A200
        simp only [Option.some.injEq, Prod.mk.injEq] at H
        obtain ⟨rfl, rfl⟩ := H
        go_enter Try.func20, Try.ntmps20
        try go_wp2_with (first | ((with_reducible refine gate_dst (N := 1) rfl ?_); refine box_event ?hg (N := 1) ?hd (cs := #[.int .i64 a0_0, .int .u32 a0_1, .int .u32 a0_2, .int .i64 a0_3, .int .i64 a0_4, .int .i64 a0_5, .slice A0_6 l0_6.length c0_6, .int .u64 a0_7, .slice A0_8 l0_8.length c0_8]) (t := 45) ?hr ?_; (case hd => rfl); (case hg => rfl); (case hr => first | (go_simp; done) | (go_simp; rfl)); intro gb132 hg w21 hbox hb; have n0_ := Aside0.mk (Kd.V_below (Kd.V_elderB (by (with_reducible repeat (first | apply Kd.V_alloc | apply Kd.V_drewN | apply Kd.V_drew)); exact HO0_6.out) gb132 (Nat.le_of_eq hg.symm)) hb); have n1_ := Aside0.mk (Kd.V_below (Kd.V_elderB (by (with_reducible repeat (first | apply Kd.V_alloc | apply Kd.V_drewN | apply Kd.V_drew)); exact HO0_8.out) gb132 (Nat.le_of_eq hg.symm)) hb); have n2_ := Aside0.mk (below_step (by repeat (first | (with_reducible first | exact HB.out | apply below_alloc | apply pw_below_drewN | apply below_drew1) | exact HB.out)) hb); have n3_ := Aside0.mk (hbox); have n4_ := Aside0.mk ((by rw [hg]; exact (below_size (by repeat (first | (with_reducible first | exact HB.out | apply below_alloc | apply pw_below_drewN | apply below_drew1) | exact HB.out))) : w.heap.size ≤ gb132)); have n5_ := Aside0.mk ((by rw [hg]; exact (below_size (by repeat (first | (with_reducible first | exact HB.out | apply below_alloc | apply pw_below_drewN | apply below_drew1) | exact HB.out))) : w.heap.size ≤ gb132)); clear HO0_6; clear HO0_8; clear HB; have HO0_6 := n0_; have HO0_8 := n1_; have HB := n2_; have BK132 := n3_; have GW132 := n4_; have GE132 := n5_; clear n0_ n1_ n2_ n3_ n4_ n5_; clear hb hbox hg; have hcz22_0 : w21.cell? ⟨gb132, 0, none⟩ = some (.int .i64 a0_0) := (blk_cell BK132.out 0).trans rfl; have hcz22_1 : w21.cell? ⟨gb132, 1, none⟩ = some (.int .u32 a0_1) := (blk_cell BK132.out 1).trans rfl; have hcz22_2 : w21.cell? ⟨gb132, 2, none⟩ = some (.int .u32 a0_2) := (blk_cell BK132.out 2).trans rfl; have hcz22_3 : w21.cell? ⟨gb132, 3, none⟩ = some (.int .i64 a0_3) := (blk_cell BK132.out 3).trans rfl; have hcz22_4 : w21.cell? ⟨gb132, 4, none⟩ = some (.int .i64 a0_4) := (blk_cell BK132.out 4).trans rfl; have hcz22_5 : w21.cell? ⟨gb132, 5, none⟩ = some (.int .i64 a0_5) := (blk_cell BK132.out 5).trans rfl; have hcz22_6 : w21.cell? ⟨gb132, 6, none⟩ = some (.slice A0_6 l0_6.length c0_6) := (blk_cell BK132.out 6).trans rfl; have hcz22_7 : w21.cell? ⟨gb132, 7, none⟩ = some (.int .u64 a0_7) := (blk_cell BK132.out 7).trans rfl; have hcz22_8 : w21.cell? ⟨gb132, 8, none⟩ = some (.slice A0_8 l0_8.length c0_8) := (blk_cell BK132.out 8).trans rfl; have hfz22_0 := blk_frozen BK132.out 0; have hfz22_1 := blk_frozen BK132.out 1; have hfz22_2 := blk_frozen BK132.out 2; have hfz22_3 := blk_frozen BK132.out 3; have hfz22_4 := blk_frozen BK132.out 4; have hfz22_5 := blk_frozen BK132.out 5; have hfz22_6 := blk_frozen BK132.out 6; have hfz22_7 := blk_frozen BK132.out 7; have hfz22_8 := blk_frozen BK132.out 8) | ((with_reducible refine gate_callee (f := 30) rfl ?_); refine goesL_ (some 5) rfl rfl Try.func30 (by kernel_rfl) rfl #[.agg #[.int .i64 a0_0, .int .u32 a0_1, .int .u32 a0_2, .int .i64 a0_3, .int .i64 a0_4, .int .i64 a0_5, .slice A0_6 l0_6.length c0_6, .int .u64 a0_7, .slice A0_8 l0_8.length c0_8]] rfl (by (try simp only [List.map_toArray, List.map_cons, List.map_nil]); first | done | rfl | (simp only [List.length_drop, List.length_take]; rfl)) ?_; (with_reducible refine (wire_may.calls a0_0 a0_1 a0_2 a0_3 a0_4 a0_5 _ _ l0_6 a0_7 _ _ l0_8 true _ ?side1 ?side2 ?side3 ?side4 A2.out).mono ?_); (case side1 => repeat (first | exact (Kd.V_reads' HO0_6.out).2.2 | (with_reducible refine Kd.C_alloc ?_ _) | (with_reducible refine Kd.C_drewN ?_ _) | (with_reducible refine Kd.C_drew ?_))); (case side2 => exact (Kd.V_reads' HO0_6.out).2.1); (case side3 => repeat (first | exact (Kd.V_reads' HO0_8.out).2.2 | (with_reducible refine Kd.C_alloc ?_ _) | (with_reducible refine Kd.C_drewN ?_ _) | (with_reducible refine Kd.C_drew ?_))); (case side4 => exact (Kd.V_reads' HO0_8.out).2.1); rintro e w23 ⟨rfl, hb⟩; refine ⟨_, rfl, ?_⟩; have n0_ := Aside0.mk (Kd.V_below (by (with_reducible repeat (first | apply Kd.V_alloc | apply Kd.V_drewN | apply Kd.V_drew)); exact HO0_6.out) hb); have n1_ := Aside0.mk (Kd.V_below (by (with_reducible repeat (first | apply Kd.V_alloc | apply Kd.V_drewN | apply Kd.V_drew)); exact HO0_8.out) hb); have n2_ := Aside0.mk (blk_below (g := gb132) (o := .cells #[.int .i64 a0_0, .int .u32 a0_1, .int .u32 a0_2, .int .i64 a0_3, .int .i64 a0_4, .int .i64 a0_5, .slice A0_6 l0_6.length c0_6, .int .u64 a0_7, .slice A0_8 l0_8.length c0_8] 45 (0, 0)) (by (with_reducible repeat (first | refine blk_drewN ?_ _ | refine blk_drew ?_ | refine blk_alloc ?_ _)); exact BK132.out) hb); have n3_ := Aside0.mk (below_step (by repeat (first | (with_reducible first | exact HB.out | apply below_alloc | apply pw_below_drewN | apply below_drew1 | refine below_set ?_ GE132.out) | exact HB.out)) hb); clear HO0_6; clear HO0_8; clear BK132; clear HB; have HO0_6 := n0_; have HO0_8 := n1_; have BK132 := n2_; have HB := n3_; clear n0_ n1_ n2_ n3_; (try clear hb); (try clear hb2); (try clear hk); (try clear hi); have hcz24_0 : w23.cell? ⟨gb132, 0, none⟩ = some (.int .i64 a0_0) := (blk_cell BK132.out 0).trans rfl; have hcz24_1 : w23.cell? ⟨gb132, 1, none⟩ = some (.int .u32 a0_1) := (blk_cell BK132.out 1).trans rfl; have hcz24_2 : w23.cell? ⟨gb132, 2, none⟩ = some (.int .u32 a0_2) := (blk_cell BK132.out 2).trans rfl; have hcz24_3 : w23.cell? ⟨gb132, 3, none⟩ = some (.int .i64 a0_3) := (blk_cell BK132.out 3).trans rfl; have hcz24_4 : w23.cell? ⟨gb132, 4, none⟩ = some (.int .i64 a0_4) := (blk_cell BK132.out 4).trans rfl; have hcz24_5 : w23.cell? ⟨gb132, 5, none⟩ = some (.int .i64 a0_5) := (blk_cell BK132.out 5).trans rfl; have hcz24_6 : w23.cell? ⟨gb132, 6, none⟩ = some (.slice A0_6 l0_6.length c0_6) := (blk_cell BK132.out 6).trans rfl; have hcz24_7 : w23.cell? ⟨gb132, 7, none⟩ = some (.int .u64 a0_7) := (blk_cell BK132.out 7).trans rfl; have hcz24_8 : w23.cell? ⟨gb132, 8, none⟩ = some (.slice A0_8 l0_8.length c0_8) := (blk_cell BK132.out 8).trans rfl; have hfz24_0 := blk_frozen BK132.out 0; have hfz24_1 := blk_frozen BK132.out 1; have hfz24_2 := blk_frozen BK132.out 2; have hfz24_3 := blk_frozen BK132.out 3; have hfz24_4 := blk_frozen BK132.out 4; have hfz24_5 := blk_frozen BK132.out 5; have hfz24_6 := blk_frozen BK132.out 6; have hfz24_7 := blk_frozen BK132.out 7; have hfz24_8 := blk_frozen BK132.out 8))
        have n0_ := Aside0.mk (Kd.V_drew HO0_6.out)
        have n1_ := Aside0.mk (Kd.V_drew HO0_8.out)
        have n2_ := Aside0.mk (blk_drew BK132.out)
        have n3_ := Aside0.mk (below_drew1 HB.out)
        clear HO0_6
        clear HO0_8
        clear BK132
        clear HB
        have HO0_6 := n0_
        have HO0_8 := n1_
        have BK132 := n2_
        have HB := n3_
        clear n0_ n1_ n2_ n3_
        refine start_ (n := 10) (S := fun w' => True) (ds := []) #[false, false, false, false, false, false, false, false, false, false] (by kernel_rfl) rfl rfl trivial (fun hHeld => ?_); refine with_tabW wire_Put.tab7 wire_Put.bits7 (fun HT_ HW_ => ?_)
        generalize w23.drew = w25 at HO0_6 HO0_8 BK132 HB hHeld ⊢
        refine pure_ (i := 1) (N := some 22) (v := ?_) (a' := ?_) #[false, true, false, false, false, false, false, false, false, false] rfl rfl (any_of HT_.out (by kernel_rfl)) (fun _ _ _ h => h) (Or.inl ⟨by rfl, ?_⟩) ?_ ?_
        rotate_left
        · intro w'
          go_simp
          with_reducible rfl
        rotate_left
        · simp only [Act.put, List.setIfInBounds_toArray, List.set_cons_zero, List.set_cons_succ, i64_w, i32_w]
          rfl
        refine pure_ (i := 4) (N := some 25) (v := ?_) (a' := ?_) #[false, true, false, false, true, false, false, false, false, false] rfl rfl (any_of HT_.out (by kernel_rfl)) (fun _ _ _ h => h) (Or.inl ⟨by rfl, ?_⟩) ?_ ?_
        rotate_left
        · intro w'
          go_simp
          with_reducible rfl
        rotate_left
        · simp only [Act.put, List.setIfInBounds_toArray, List.set_cons_zero, List.set_cons_succ, i64_w, i32_w]
          rfl
        refine inv_at [0, 2, 3, 5, 6, 7, 8, 9] (fun a0_ b a w' => ∃ (v144 : Value) (v147 : Value) (v150 : Value) (v153 : Value) (m8_ : Value), a = putSel a0_ b [(0, 21, v144), (2, 23, .int .u32 a0_2), (3, 24, v147), (5, 26, .slice A0_6 l0_6.length c0_6), (6, 27, v150), (7, 28, v153), (8, 2, m8_), (9, 3, .int .i64 0)] ∧ (Kd.V (Kd.int .u8) 5 w' w.heap.size (fun k_ => ((P0_6_ k_ ∨ P0_8_ k_) ∨ w.heap.size ≤ k_) ∧ k_ ≠ gb132) (.slice A0_6 l0_6.length c0_6) l0_6) ∧ (Kd.V (Kd.int .u8) 5 w' w.heap.size (fun k_ => ((P0_6_ k_ ∨ P0_8_ k_) ∨ w.heap.size ≤ k_) ∧ k_ ≠ gb132) (.slice A0_8 l0_8.length c0_8) l0_8) ∧ (w'.heap[gb132]? = some (.cells #[.int .i64 a0_0, .int .u32 a0_1, .int .u32 a0_2, .int .i64 a0_3, .int .i64 a0_4, .int .i64 a0_5, .slice A0_6 l0_6.length c0_6, .int .u64 a0_7, .slice A0_8 l0_8.length c0_8] 45 (0, 0))) ∧ (Below w.heap.size w w') ∧ (b 0 = true → b 6 = false → Kd.R (Kd.int .u8) 5 w' w.heap.size (fun k_ => (w.heap.size ≤ k_)) v144 y143) ∧ (b 3 = true → b 6 = false → Kd.R (Kd.int .u8) 5 w' w.heap.size (fun k_ => (w.heap.size ≤ k_)) v147 t146) ∧ (b 6 = true → Kd.N (Kd.slice 5 (Kd.int .u8)) 37 w' w.heap.size (fun k_ => ((P0_6_ k_ ∨ P0_8_ k_) ∨ w.heap.size ≤ k_) ∧ k_ ≠ gb132) v150 y149) ∧ (b 7 = true → Kd.R (Kd.int .u8) 5 w' w.heap.size (fun k_ => (w.heap.size ≤ k_)) v153 t152) ∧ (b 8 = true → (m8_ : Value) = v153)) HT_.out HW_.out (by kernel_rfl) (by kernel_rfl) ?_ ?_ ?_
        · exact ⟨.bool false, .bool false, .bool false, .bool false, .bool false, by simp only [putSel, Bool.false_eq_true, if_false], HO0_6.out, HO0_8.out, BK132.out, HB.out, fun h_ => absurd h_ (by decide), fun h_ => absurd h_ (by decide), fun h_ => absurd h_ (by decide), fun h_ => absurd h_ (by decide), fun h_ => absurd h_ (by decide)⟩
        · skip
          clear BK132 HB HO0_6 HO0_8
          refine steps_cons ?_ ?_
          · rintro b a w' ⟨v144, v147, v150, v153, m8_, ha, Q_HO0_6, Q_HO0_8, Q_BK132, Q_HB, Q_HO145, Q_HO148, Q_HO151, Q_HO154, Q_X8_⟩ hb_ hon hoff
            refine ⟨_, rfl, fun K hK => ?_⟩
            replace ha := Aside0.mk ha
            have HO0_6 := Aside0.mk Q_HO0_6
            have HO0_8 := Aside0.mk Q_HO0_8
            have BK132 := Aside0.mk Q_BK132
            have HB := Aside0.mk Q_HB
            refine Kd.R_lit_step (Kd.int .u8) _ 5 ?hg (N := 21) ?hd (xs := ([2] : List Int)) (inner := [.int .u8 2]) (ok := fun _ => True) (okp := fun _ => True) ?hr ?hp (fun _ hk => hk) trivial (Below.refl _ _) (Nat.le_refl _) (by simp) ?_; (case hd => rfl); (case hg => rfl); (case hr => first | (go_simp; done) | (go_simp; rfl)); (case hp => exact (Reps.one (show Kd.M (Kd.int .u8) _ _ _ 2 [.int .u8 2] from rfl) (Reps.none _ _)))
            intro v144 w26 ho27 hb hg_ hnew_
            clear hg_ hnew_
            (first | rw [← Ny143.out] at ho27 | (simp only [Int.reduceToNat] at ho27; rw [← Ny143.out] at ho27))
            have n0_ := Aside0.mk (Kd.V_elder' (by (with_reducible repeat (first | apply Kd.V_alloc | apply Kd.V_drewN | apply Kd.V_drew)); exact HO0_6.out) (Kd.R_base ho27) hb)
            have n1_ := Aside0.mk (Kd.V_elder' (by (with_reducible repeat (first | apply Kd.V_alloc | apply Kd.V_drewN | apply Kd.V_drew)); exact HO0_8.out) (Kd.R_base ho27) hb)
            have n2_ := Aside0.mk (Kd.R_lower (Kd.R_newM (M := fun k_ => (w.heap.size ≤ k_)) ho27 (below_size (by repeat (first | (with_reducible first | exact HB.out | apply below_alloc | apply pw_below_drewN | apply below_drew1 | refine below_set ?_ GE132.out) | exact HB.out))) (fun k_ h_ => h_)) (below_size (by repeat (first | (with_reducible first | exact HB.out | apply below_alloc | apply pw_below_drewN | apply below_drew1 | refine below_set ?_ GE132.out) | exact HB.out))))
            have n3_ := Aside0.mk (blk_below (g := gb132) (o := .cells #[.int .i64 a0_0, .int .u32 a0_1, .int .u32 a0_2, .int .i64 a0_3, .int .i64 a0_4, .int .i64 a0_5, .slice A0_6 l0_6.length c0_6, .int .u64 a0_7, .slice A0_8 l0_8.length c0_8] 45 (0, 0)) (by (with_reducible repeat (first | refine blk_drewN ?_ _ | refine blk_drew ?_ | refine blk_alloc ?_ _)); exact BK132.out) hb)
            have n4_ := Aside0.mk (below_step (by repeat (first | (with_reducible first | exact HB.out | apply below_alloc | apply pw_below_drewN | apply below_drew1 | refine below_set ?_ GE132.out) | exact HB.out)) hb)
            have z_HO148 := fun (h0_ : b 3 = true) (h1_ : b 6 = false) => (show Kd.R (Kd.int .u8) 5 w26 w.heap.size (fun k_ => (w.heap.size ≤ k_)) v147 t146 from by first | exact (Kd.R_elder' (by (with_reducible repeat (first | apply Kd.R_alloc | apply Kd.R_drewN | apply Kd.R_drew)); exact (Q_HO148 h0_ h1_)) (Kd.R_base ho27) hb) | exact Kd.R_mono (Kd.R_elder' (by (with_reducible repeat (first | apply Kd.R_alloc | apply Kd.R_drewN | apply Kd.R_drew)); exact (Q_HO148 h0_ h1_)) (Kd.R_base ho27) hb) (fun _ h_ => by first | trivial | exact h_ | exact h_.1))
            clear HO0_6
            clear HO0_8
            clear BK132
            clear HB
            have HO0_6 := n0_
            have HO0_8 := n1_
            have HO145 := n2_
            have BK132 := n3_
            have HB := n4_
            clear n0_ n1_ n2_ n3_ n4_
            clear hb ho27
            refine hK.out _ _ ⟨v144, v147, v150, v153, m8_, (by rw [ha.out]; exact putSel_upk 0 hb_ rfl rfl rfl), (by (with_reducible repeat (first | apply Kd.V_alloc | apply Kd.V_drewN | apply Kd.V_drew)); exact Kd.V_mono HO0_6.out (fun _ hk => (by first | exact ⟨hk.1.1, ⟨hk.2, hk.1.2⟩⟩ | grind))), (by (with_reducible repeat (first | apply Kd.V_alloc | apply Kd.V_drewN | apply Kd.V_drew)); exact Kd.V_mono HO0_8.out (fun _ hk => (by first | exact ⟨hk.1.1, ⟨hk.2, hk.1.2⟩⟩ | grind))), (by (with_reducible repeat (first | refine blk_drewN ?_ _ | refine blk_drew ?_ | refine blk_alloc ?_ _)); exact BK132.out), (by repeat (first | (with_reducible first | exact HB.out | apply below_alloc | apply pw_below_drewN | apply below_drew1 | refine below_set ?_ GE132.out) | exact HB.out)), fun _ _ => (by (with_reducible repeat (first | apply Kd.R_alloc | apply Kd.R_drewN | apply Kd.R_drew)); exact Kd.R_mono HO145.out (fun _ hk => hk.1)), z_HO148, fun h0_ => absurd ((hoff 6 (by kernel_rfl)).symm.trans h0_) (by decide), fun h0_ => absurd ((hoff 7 (by kernel_rfl)).symm.trans h0_) (by decide), fun h0_ => absurd ((hoff 8 (by kernel_rfl)).symm.trans h0_) (by decide)⟩
          refine steps_cons ?_ ?_
          · rintro b a w' ⟨v144, v147, v150, v153, m8_, ha, Q_HO0_6, Q_HO0_8, Q_BK132, Q_HB, Q_HO145, Q_HO148, Q_HO151, Q_HO154, Q_X8_⟩ hb_ hon hoff
            refine ⟨_, rfl, fun K hK => ?_⟩
            have e22 : a.tmps[22]? = some (.pointer (some ⟨gb132, 2, none⟩)) := by rw [ha]; exact (putSel_off rfl).trans rfl
            replace ha := Aside0.mk ha
            have HO0_6 := Aside0.mk Q_HO0_6
            have HO0_8 := Aside0.mk Q_HO0_8
            have BK132 := Aside0.mk Q_BK132
            have HB := Aside0.mk Q_HB
            have hc0_ : w'.cell? ⟨gb132, 0, none⟩ = some (.int .i64 a0_0) := (blk_cell BK132.out 0).trans rfl
            have hc1_ : w'.cell? ⟨gb132, 1, none⟩ = some (.int .u32 a0_1) := (blk_cell BK132.out 1).trans rfl
            have hc2_ : w'.cell? ⟨gb132, 2, none⟩ = some (.int .u32 a0_2) := (blk_cell BK132.out 2).trans rfl
            have hc3_ : w'.cell? ⟨gb132, 3, none⟩ = some (.int .i64 a0_3) := (blk_cell BK132.out 3).trans rfl
            have hc4_ : w'.cell? ⟨gb132, 4, none⟩ = some (.int .i64 a0_4) := (blk_cell BK132.out 4).trans rfl
            have hc5_ : w'.cell? ⟨gb132, 5, none⟩ = some (.int .i64 a0_5) := (blk_cell BK132.out 5).trans rfl
            have hc6_ : w'.cell? ⟨gb132, 6, none⟩ = some (.slice A0_6 l0_6.length c0_6) := (blk_cell BK132.out 6).trans rfl
            have hc7_ : w'.cell? ⟨gb132, 7, none⟩ = some (.int .u64 a0_7) := (blk_cell BK132.out 7).trans rfl
            have hc8_ : w'.cell? ⟨gb132, 8, none⟩ = some (.slice A0_8 l0_8.length c0_8) := (blk_cell BK132.out 8).trans rfl
            refine value_ (w1 := w') (v := .int .u32 a0_2) (by rfl) rfl ?_ ?_
            · go_simp
              (try simp only [i64_w])
              try rfl
            refine hK.out _ _ ⟨v144, v147, v150, v153, m8_, (by rw [ha.out]; exact putSel_upk 1 hb_ rfl rfl rfl), Q_HO0_6, Q_HO0_8, Q_BK132, Q_HB, Q_HO145, fun h0_ _ => absurd ((hoff 3 (by kernel_rfl)).symm.trans h0_) (by decide), fun h0_ => absurd ((hoff 6 (by kernel_rfl)).symm.trans h0_) (by decide), fun h0_ => absurd ((hoff 7 (by kernel_rfl)).symm.trans h0_) (by decide), fun h0_ => absurd ((hoff 8 (by kernel_rfl)).symm.trans h0_) (by decide)⟩
          refine steps_cons ?_ ?_
          · rintro b a w' ⟨v144, v147, v150, v153, m8_, ha, Q_HO0_6, Q_HO0_8, Q_BK132, Q_HB, Q_HO145, Q_HO148, Q_HO151, Q_HO154, Q_X8_⟩ hb_ hon hoff
            refine ⟨_, rfl, fun K hK => ?_⟩
            have e23 : a.tmps[23]? = some (.int .u32 a0_2) := by rw [ha]; exact putSel_on (e := (2, 23, .int .u32 a0_2)) 1 rfl rfl (hon 2 (by kernel_rfl)) rfl
            replace ha := Aside0.mk ha
            have HO0_6 := Aside0.mk Q_HO0_6
            have HO0_8 := Aside0.mk Q_HO0_8
            have BK132 := Aside0.mk Q_BK132
            have HB := Aside0.mk Q_HB
            refine goes_ Try.func33 (by kernel_rfl) rfl #[.int .u32 a0_2] (by rfl) rfl rfl (by first | (simp only [List.map_toArray, List.map_cons, List.map_nil, Act.eval, Array.getD_eq_getD_getElem?, Option.getD_some, e23]; done) | (simp only [List.map_toArray, List.map_cons, List.map_nil, Act.eval, Array.getD_eq_getD_getElem?, Option.getD_some, e23]; rfl)) ?_
            with_reducible refine (wire_four.calls k a0_2 t146 _ A19.out).mono ?_
            rintro e w26 ⟨v147, rfl, ho0, hb⟩
            refine ⟨_, rfl, ?_⟩
            have n0_ := Aside0.mk (Kd.V_elder' (by (with_reducible repeat (first | apply Kd.V_alloc | apply Kd.V_drewN | apply Kd.V_drew)); exact HO0_6.out) (Kd.R_base ho0) hb)
            have n1_ := Aside0.mk (Kd.V_elder' (by (with_reducible repeat (first | apply Kd.V_alloc | apply Kd.V_drewN | apply Kd.V_drew)); exact HO0_8.out) (Kd.R_base ho0) hb)
            have n2_ := Aside0.mk (Kd.R_lower (Kd.R_newM (M := fun k_ => (w.heap.size ≤ k_)) ho0 (below_size (by repeat (first | (with_reducible first | exact HB.out | apply below_alloc | apply pw_below_drewN | apply below_drew1 | refine below_set ?_ GE132.out) | exact HB.out))) (fun k_ h_ => h_)) (below_size (by repeat (first | (with_reducible first | exact HB.out | apply below_alloc | apply pw_below_drewN | apply below_drew1 | refine below_set ?_ GE132.out) | exact HB.out))))
            have n3_ := Aside0.mk (blk_below (g := gb132) (o := .cells #[.int .i64 a0_0, .int .u32 a0_1, .int .u32 a0_2, .int .i64 a0_3, .int .i64 a0_4, .int .i64 a0_5, .slice A0_6 l0_6.length c0_6, .int .u64 a0_7, .slice A0_8 l0_8.length c0_8] 45 (0, 0)) (by (with_reducible repeat (first | refine blk_drewN ?_ _ | refine blk_drew ?_ | refine blk_alloc ?_ _)); exact BK132.out) hb)
            have n4_ := Aside0.mk (below_step (by repeat (first | (with_reducible first | exact HB.out | apply below_alloc | apply pw_below_drewN | apply below_drew1 | refine below_set ?_ GE132.out) | exact HB.out)) hb)
            have z_HO145 := fun (h0_ : b 0 = true) (h1_ : b 6 = false) => (show Kd.R (Kd.int .u8) 5 w26 w.heap.size (fun k_ => (w.heap.size ≤ k_)) v144 y143 from by first | exact (Kd.R_elder' (by (with_reducible repeat (first | apply Kd.R_alloc | apply Kd.R_drewN | apply Kd.R_drew)); exact (Q_HO145 h0_ h1_)) (Kd.R_base ho0) hb) | exact Kd.R_mono (Kd.R_elder' (by (with_reducible repeat (first | apply Kd.R_alloc | apply Kd.R_drewN | apply Kd.R_drew)); exact (Q_HO145 h0_ h1_)) (Kd.R_base ho0) hb) (fun _ h_ => by first | trivial | exact h_ | exact h_.1))
            clear HO0_6
            clear HO0_8
            clear BK132
            clear HB
            have HO0_6 := n0_
            have HO0_8 := n1_
            have HO148 := n2_
            have BK132 := n3_
            have HB := n4_
            clear n0_ n1_ n2_ n3_ n4_
            (try clear hb)
            (try clear hb2)
            (try clear hk)
            (try clear hi)
            (try clear ho0)
            refine hK.out _ _ ⟨v144, v147, v150, v153, m8_, (by rw [ha.out]; exact putSel_upk 2 hb_ rfl rfl rfl), (by (with_reducible repeat (first | apply Kd.V_alloc | apply Kd.V_drewN | apply Kd.V_drew)); exact Kd.V_mono HO0_6.out (fun _ hk => (by first | exact ⟨hk.1.1, ⟨hk.2, hk.1.2⟩⟩ | grind))), (by (with_reducible repeat (first | apply Kd.V_alloc | apply Kd.V_drewN | apply Kd.V_drew)); exact Kd.V_mono HO0_8.out (fun _ hk => (by first | exact ⟨hk.1.1, ⟨hk.2, hk.1.2⟩⟩ | grind))), (by (with_reducible repeat (first | refine blk_drewN ?_ _ | refine blk_drew ?_ | refine blk_alloc ?_ _)); exact BK132.out), (by repeat (first | (with_reducible first | exact HB.out | apply below_alloc | apply pw_below_drewN | apply below_drew1 | refine below_set ?_ GE132.out) | exact HB.out)), z_HO145, fun _ _ => (by (with_reducible repeat (first | apply Kd.R_alloc | apply Kd.R_drewN | apply Kd.R_drew)); exact Kd.R_mono HO148.out (fun _ hk => hk.1)), fun h0_ => absurd ((hoff 6 (by kernel_rfl)).symm.trans h0_) (by decide), fun h0_ => absurd ((hoff 7 (by kernel_rfl)).symm.trans h0_) (by decide), fun h0_ => absurd ((hoff 8 (by kernel_rfl)).symm.trans h0_) (by decide)⟩
          refine steps_cons ?_ ?_
          · rintro b a w' ⟨v144, v147, v150, v153, m8_, ha, Q_HO0_6, Q_HO0_8, Q_BK132, Q_HB, Q_HO145, Q_HO148, Q_HO151, Q_HO154, Q_X8_⟩ hb_ hon hoff
            refine ⟨_, rfl, fun K hK => ?_⟩
            have e25 : a.tmps[25]? = some (.pointer (some ⟨gb132, 6, none⟩)) := by rw [ha]; exact (putSel_off rfl).trans rfl
            replace ha := Aside0.mk ha
            have HO0_6 := Aside0.mk Q_HO0_6
            have HO0_8 := Aside0.mk Q_HO0_8
            have BK132 := Aside0.mk Q_BK132
            have HB := Aside0.mk Q_HB
            have hc0_ : w'.cell? ⟨gb132, 0, none⟩ = some (.int .i64 a0_0) := (blk_cell BK132.out 0).trans rfl
            have hc1_ : w'.cell? ⟨gb132, 1, none⟩ = some (.int .u32 a0_1) := (blk_cell BK132.out 1).trans rfl
            have hc2_ : w'.cell? ⟨gb132, 2, none⟩ = some (.int .u32 a0_2) := (blk_cell BK132.out 2).trans rfl
            have hc3_ : w'.cell? ⟨gb132, 3, none⟩ = some (.int .i64 a0_3) := (blk_cell BK132.out 3).trans rfl
            have hc4_ : w'.cell? ⟨gb132, 4, none⟩ = some (.int .i64 a0_4) := (blk_cell BK132.out 4).trans rfl
            have hc5_ : w'.cell? ⟨gb132, 5, none⟩ = some (.int .i64 a0_5) := (blk_cell BK132.out 5).trans rfl
            have hc6_ : w'.cell? ⟨gb132, 6, none⟩ = some (.slice A0_6 l0_6.length c0_6) := (blk_cell BK132.out 6).trans rfl
            have hc7_ : w'.cell? ⟨gb132, 7, none⟩ = some (.int .u64 a0_7) := (blk_cell BK132.out 7).trans rfl
            have hc8_ : w'.cell? ⟨gb132, 8, none⟩ = some (.slice A0_8 l0_8.length c0_8) := (blk_cell BK132.out 8).trans rfl
            refine value_ (w1 := w') (v := .slice A0_6 l0_6.length c0_6) (by rfl) rfl ?_ ?_
            · go_simp
              (try simp only [i64_w])
              try rfl
            refine hK.out _ _ ⟨v144, v147, v150, v153, m8_, (by rw [ha.out]; exact putSel_upk 3 hb_ rfl rfl rfl), Q_HO0_6, Q_HO0_8, Q_BK132, Q_HB, Q_HO145, Q_HO148, fun h0_ => absurd ((hoff 6 (by kernel_rfl)).symm.trans h0_) (by decide), fun h0_ => absurd ((hoff 7 (by kernel_rfl)).symm.trans h0_) (by decide), fun h0_ => absurd ((hoff 8 (by kernel_rfl)).symm.trans h0_) (by decide)⟩
          refine steps_cons ?_ ?_
          · rintro b a w' ⟨v144, v147, v150, v153, m8_, ha, Q_HO0_6, Q_HO0_8, Q_BK132, Q_HB, Q_HO145, Q_HO148, Q_HO151, Q_HO154, Q_X8_⟩ hb_ hon hoff
            refine ⟨_, rfl, fun K hK => ?_⟩
            have e21 : a.tmps[21]? = some (v144) := by rw [ha]; exact putSel_on (e := (0, 21, v144)) 0 rfl rfl (hon 0 (by kernel_rfl)) rfl
            have e24 : a.tmps[24]? = some (v147) := by rw [ha]; exact putSel_on (e := (3, 24, v147)) 2 rfl rfl (hon 3 (by kernel_rfl)) rfl
            have e26 : a.tmps[26]? = some (.slice A0_6 l0_6.length c0_6) := by rw [ha]; exact putSel_on (e := (5, 26, .slice A0_6 l0_6.length c0_6)) 3 rfl rfl (hon 5 (by kernel_rfl)) rfl
            replace ha := Aside0.mk ha
            have HO0_6 := Aside0.mk Q_HO0_6
            have HO0_8 := Aside0.mk Q_HO0_8
            have BK132 := Aside0.mk Q_BK132
            have HB := Aside0.mk Q_HB
            have HO145 := Aside0.mk (Q_HO145 (hon 0 (by kernel_rfl)) hb_)
            have HO148 := Aside0.mk (Q_HO148 (hon 3 (by kernel_rfl)) hb_)
            obtain ⟨Ao30, co30, eo30⟩ := Kd.R_slice HO145.out
            (first | subst eo30 | (injection eo30 with f1_ f2_ f3_; have f4_ := f1_.symm; have f5_ := f3_.symm; clear f1_ f2_ f3_; subst f4_; subst f5_))
            obtain ⟨Ao31, co31, eo31⟩ := Kd.R_slice HO148.out
            (first | subst eo31 | (injection eo31 with f1_ f2_ f3_; have f4_ := f1_.symm; have f5_ := f3_.symm; clear f1_ f2_ f3_; subst f4_; subst f5_))
            refine Kd.N_lit_step (Kd.slice 5 (Kd.int .u8)) _ 37 ?hg (N' := 27) ?hd (xs := ([y143, t146, l0_6] : List (List Int))) (inner := [.slice Ao30 y143.length co30, .slice Ao31 t146.length co31, .slice A0_6 l0_6.length c0_6]) (ok := (fun k_ => ((P0_6_ k_ ∨ P0_8_ k_) ∨ w.heap.size ≤ k_) ∧ k_ ≠ gb132)) (okp := (fun k_ => ((P0_6_ k_ ∨ P0_8_ k_) ∨ w.heap.size ≤ k_) ∧ k_ ≠ gb132)) ?hr ?hp (fun _ hk => hk) ((show ∀ k_, w'.heap.size ≤ k_ → (fun k_ => ((P0_6_ k_ ∨ P0_8_ k_) ∨ w.heap.size ≤ k_) ∧ k_ ≠ gb132) k_ from fun k_ hk => ⟨(.inr (Nat.le_trans (below_size (by repeat (first | (with_reducible first | exact HB.out | apply below_alloc | apply pw_below_drewN | apply below_drew1 | refine below_set ?_ GE132.out) | exact HB.out))) hk)), Kd.freshB (g := gb132) (o := .cells #[.int .i64 a0_0, .int .u32 a0_1, .int .u32 a0_2, .int .i64 a0_3, .int .i64 a0_4, .int .i64 a0_5, .slice A0_6 l0_6.length c0_6, .int .u64 a0_7, .slice A0_8 l0_8.length c0_8] 45 (0, 0)) (by (with_reducible repeat (first | refine blk_drewN ?_ _ | refine blk_drew ?_ | refine blk_alloc ?_ _)); exact BK132.out) k_ hk⟩) _ (Nat.le_refl _)) (Below.refl _ _) (Nat.le_refl _) (by simp) ?_; (case hd => rfl); (case hg => rfl); (case hr => first | (go_simp; done) | (go_simp; rfl)); (case hp => exact (Reps.one (show Kd.FK (Kd.slice 5 (Kd.int .u8)) _ _ y143 [.slice Ao30 y143.length co30] from (Kd.FK_slice_mk (Kd.R_reads' (Kd.R_mono (ok' := (fun k_ => ((P0_6_ k_ ∨ P0_8_ k_) ∨ w.heap.size ≤ k_) ∧ k_ ≠ gb132)) (Kd.R_types (HO145.out) BK132.out (by decide)) (fun k_ hk => (by first | exact ⟨(.inr (hk.1.1)), hk.2⟩ | grind)))).2.1 (Kd.R_F (Kd.R_mono (ok' := (fun k_ => ((P0_6_ k_ ∨ P0_8_ k_) ∨ w.heap.size ≤ k_) ∧ k_ ≠ gb132)) (Kd.R_types (HO145.out) BK132.out (by decide)) (fun k_ hk => (by first | exact ⟨(.inr (hk.1.1)), hk.2⟩ | grind)))))) (Reps.one (show Kd.FK (Kd.slice 5 (Kd.int .u8)) _ _ t146 [.slice Ao31 t146.length co31] from (Kd.FK_slice_mk (Kd.R_reads' (Kd.R_mono (ok' := (fun k_ => ((P0_6_ k_ ∨ P0_8_ k_) ∨ w.heap.size ≤ k_) ∧ k_ ≠ gb132)) (Kd.R_types (HO148.out) BK132.out (by decide)) (fun k_ hk => (by first | exact ⟨(.inr (hk.1.1)), hk.2⟩ | grind)))).2.1 (Kd.R_F (Kd.R_mono (ok' := (fun k_ => ((P0_6_ k_ ∨ P0_8_ k_) ∨ w.heap.size ≤ k_) ∧ k_ ≠ gb132)) (Kd.R_types (HO148.out) BK132.out (by decide)) (fun k_ hk => (by first | exact ⟨(.inr (hk.1.1)), hk.2⟩ | grind)))))) (Reps.one (show Kd.FK (Kd.slice 5 (Kd.int .u8)) _ _ l0_6 [.slice A0_6 l0_6.length c0_6] from (Kd.FK_slice_mk (Kd.V_reads' (Kd.V_mono (ok' := (fun k_ => ((P0_6_ k_ ∨ P0_8_ k_) ∨ w.heap.size ≤ k_) ∧ k_ ≠ gb132)) (HO0_6.out) (fun k_ hk => (by first | exact ⟨hk.1, hk.2.2.2⟩ | grind)))).2.1 (Kd.V_F (Kd.V_mono (ok' := (fun k_ => ((P0_6_ k_ ∨ P0_8_ k_) ∨ w.heap.size ≤ k_) ∧ k_ ≠ gb132)) (HO0_6.out) (fun k_ hk => (by first | exact ⟨hk.1, hk.2.2.2⟩ | grind)))))) (Reps.none _ _)))))
            intro v150 w32 ho33 hb hg_ hnew_
            clear hg_ hnew_
            (first | rw [← Ny149.out] at ho33 | (simp only [Int.reduceToNat] at ho33; rw [← Ny149.out] at ho33))
            have n0_ := Aside0.mk (Kd.V_elder' (by (with_reducible repeat (first | apply Kd.V_alloc | apply Kd.V_drewN | apply Kd.V_drew)); exact HO0_6.out) (Kd.N_base ho33) hb)
            have n1_ := Aside0.mk (Kd.V_elder' (by (with_reducible repeat (first | apply Kd.V_alloc | apply Kd.V_drewN | apply Kd.V_drew)); exact HO0_8.out) (Kd.N_base ho33) hb)
            have n2_ := Aside0.mk (Kd.N_lower ho33 (below_size (by repeat (first | (with_reducible first | exact HB.out | apply below_alloc | apply pw_below_drewN | apply below_drew1 | refine below_set ?_ GE132.out) | exact HB.out))))
            have n3_ := Aside0.mk (blk_below (g := gb132) (o := .cells #[.int .i64 a0_0, .int .u32 a0_1, .int .u32 a0_2, .int .i64 a0_3, .int .i64 a0_4, .int .i64 a0_5, .slice A0_6 l0_6.length c0_6, .int .u64 a0_7, .slice A0_8 l0_8.length c0_8] 45 (0, 0)) (by (with_reducible repeat (first | refine blk_drewN ?_ _ | refine blk_drew ?_ | refine blk_alloc ?_ _)); exact BK132.out) hb)
            have n4_ := Aside0.mk (below_step (by repeat (first | (with_reducible first | exact HB.out | apply below_alloc | apply pw_below_drewN | apply below_drew1 | refine below_set ?_ GE132.out) | exact HB.out)) hb)
            clear HO0_6
            clear HO0_8
            clear BK132
            clear HB
            clear HO145
            clear HO148
            have HO0_6 := n0_
            have HO0_8 := n1_
            have HO151 := n2_
            have BK132 := n3_
            have HB := n4_
            clear n0_ n1_ n2_ n3_ n4_
            clear hb ho33
            refine hK.out _ _ ⟨.slice Ao30 y143.length co30, .slice Ao31 t146.length co31, v150, v153, m8_, (by rw [ha.out]; exact putSel_upk 4 hb_ rfl rfl rfl), (by (with_reducible repeat (first | apply Kd.V_alloc | apply Kd.V_drewN | apply Kd.V_drew)); exact Kd.V_mono HO0_6.out (fun _ hk => (by first | exact ⟨hk.1.1, ⟨hk.2, hk.1.2.2.2⟩⟩ | grind))), (by (with_reducible repeat (first | apply Kd.V_alloc | apply Kd.V_drewN | apply Kd.V_drew)); exact Kd.V_mono HO0_8.out (fun _ hk => (by first | exact ⟨hk.1.1, ⟨hk.2, hk.1.2.2.2⟩⟩ | grind))), (by (with_reducible repeat (first | refine blk_drewN ?_ _ | refine blk_drew ?_ | refine blk_alloc ?_ _)); exact BK132.out), (by repeat (first | (with_reducible first | exact HB.out | apply below_alloc | apply pw_below_drewN | apply below_drew1 | refine below_set ?_ GE132.out) | exact HB.out)), fun _ h1_ => absurd ((up_self b 6).symm.trans h1_) (by decide), fun _ h1_ => absurd ((up_self b 6).symm.trans h1_) (by decide), fun _ => (by (with_reducible repeat (first | apply Kd.N_alloc | apply Kd.N_drewN | apply Kd.N_drew)); exact HO151.out), fun h0_ => absurd ((hoff 7 (by kernel_rfl)).symm.trans h0_) (by decide), fun h0_ => absurd ((hoff 8 (by kernel_rfl)).symm.trans h0_) (by decide)⟩
          refine steps_cons ?_ ?_
          · rintro b a w' ⟨v144, v147, v150, v153, m8_, ha, Q_HO0_6, Q_HO0_8, Q_BK132, Q_HB, Q_HO145, Q_HO148, Q_HO151, Q_HO154, Q_X8_⟩ hb_ hon hoff
            refine ⟨_, rfl, fun K hK => ?_⟩
            have e27 : a.tmps[27]? = some (v150) := by rw [ha]; exact putSel_on (e := (6, 27, v150)) 4 rfl rfl (hon 6 (by kernel_rfl)) rfl
            replace ha := Aside0.mk ha
            have HO0_6 := Aside0.mk Q_HO0_6
            have HO0_8 := Aside0.mk Q_HO0_8
            have BK132 := Aside0.mk Q_BK132
            have HB := Aside0.mk Q_HB
            have HO151 := Aside0.mk (Q_HO151 (hon 6 (by kernel_rfl)))
            obtain ⟨Ao34, co34, eo34⟩ := Kd.N_slice HO151.out
            (first | subst eo34 | (injection eo34 with f1_ f2_ f3_; have f4_ := f1_.symm; have f5_ := f3_.symm; clear f1_ f2_ f3_; subst f4_; subst f5_))
            refine goes_ Try.func31 (by kernel_rfl) rfl #[.slice Ao34 y149.length co34] (by rfl) rfl rfl (by first | (simp only [List.map_toArray, List.map_cons, List.map_nil, Act.eval, Array.getD_eq_getD_getElem?, Option.getD_some, e27]; done) | (simp only [List.map_toArray, List.map_cons, List.map_nil, Act.eval, Array.getD_eq_getD_getElem?, Option.getD_some, e27]; rfl)) ?_
            with_reducible refine (words_Join.calls k _ _ y149 t152 _ ?side1 ?side2 A20.out).mono ?_
            (case side1 => repeat (first | exact (Kd.N_reads' HO151.out).2.2 | (with_reducible refine Kd.C_alloc ?_ _) | (with_reducible refine Kd.C_drewN ?_ _) | (with_reducible refine Kd.C_drew ?_)))
            (case side2 => exact (Kd.N_reads' HO151.out).2.1)
            rintro e w35 ⟨v153, rfl, ho0, hb⟩
            refine ⟨_, rfl, ?_⟩
            have n0_ := Aside0.mk (Kd.V_elder' (by (with_reducible repeat (first | apply Kd.V_alloc | apply Kd.V_drewN | apply Kd.V_drew)); exact HO0_6.out) (Kd.R_base ho0) hb)
            have n1_ := Aside0.mk (Kd.V_elder' (by (with_reducible repeat (first | apply Kd.V_alloc | apply Kd.V_drewN | apply Kd.V_drew)); exact HO0_8.out) (Kd.R_base ho0) hb)
            have n2_ := Aside0.mk (Kd.N_elder' (by (with_reducible repeat (first | apply Kd.N_alloc | apply Kd.N_drewN | apply Kd.N_drew)); exact HO151.out) (Kd.R_base ho0) hb)
            have n3_ := Aside0.mk (Kd.R_lower (Kd.R_newM (M := fun k_ => (w.heap.size ≤ k_)) ho0 (below_size (by repeat (first | (with_reducible first | exact HB.out | apply below_alloc | apply pw_below_drewN | apply below_drew1 | refine below_set ?_ GE132.out) | exact HB.out))) (fun k_ h_ => h_)) (below_size (by repeat (first | (with_reducible first | exact HB.out | apply below_alloc | apply pw_below_drewN | apply below_drew1 | refine below_set ?_ GE132.out) | exact HB.out))))
            have n4_ := Aside0.mk (blk_below (g := gb132) (o := .cells #[.int .i64 a0_0, .int .u32 a0_1, .int .u32 a0_2, .int .i64 a0_3, .int .i64 a0_4, .int .i64 a0_5, .slice A0_6 l0_6.length c0_6, .int .u64 a0_7, .slice A0_8 l0_8.length c0_8] 45 (0, 0)) (by (with_reducible repeat (first | refine blk_drewN ?_ _ | refine blk_drew ?_ | refine blk_alloc ?_ _)); exact BK132.out) hb)
            have n5_ := Aside0.mk (below_step (by repeat (first | (with_reducible first | exact HB.out | apply below_alloc | apply pw_below_drewN | apply below_drew1 | refine below_set ?_ GE132.out) | exact HB.out)) hb)
            clear HO0_6
            clear HO0_8
            clear HO151
            clear BK132
            clear HB
            have HO0_6 := n0_
            have HO0_8 := n1_
            have HO151 := n2_
            have HO154 := n3_
            have BK132 := n4_
            have HB := n5_
            clear n0_ n1_ n2_ n3_ n4_ n5_
            (try clear hb)
            (try clear hb2)
            (try clear hk)
            (try clear hi)
            (try clear ho0)
            refine hK.out _ _ ⟨v144, v147, .slice Ao34 y149.length co34, v153, m8_, (by rw [ha.out]; exact putSel_upk 5 hb_ rfl rfl rfl), (by (with_reducible repeat (first | apply Kd.V_alloc | apply Kd.V_drewN | apply Kd.V_drew)); exact Kd.V_mono HO0_6.out (fun _ hk => (by first | exact ⟨hk.1.1, ⟨hk.1.2.1, ⟨hk.2, hk.1.2.2⟩⟩⟩ | grind))), (by (with_reducible repeat (first | apply Kd.V_alloc | apply Kd.V_drewN | apply Kd.V_drew)); exact Kd.V_mono HO0_8.out (fun _ hk => (by first | exact ⟨hk.1.1, ⟨hk.1.2.1, ⟨hk.2, hk.1.2.2⟩⟩⟩ | grind))), (by (with_reducible repeat (first | refine blk_drewN ?_ _ | refine blk_drew ?_ | refine blk_alloc ?_ _)); exact BK132.out), (by repeat (first | (with_reducible first | exact HB.out | apply below_alloc | apply pw_below_drewN | apply below_drew1 | refine below_set ?_ GE132.out) | exact HB.out)), fun _ h1_ => absurd ((hon 6 (by kernel_rfl)).symm.trans h1_) (by decide), fun _ h1_ => absurd ((hon 6 (by kernel_rfl)).symm.trans h1_) (by decide), fun _ => (by (with_reducible repeat (first | apply Kd.N_alloc | apply Kd.N_drewN | apply Kd.N_drew)); exact Kd.N_mono HO151.out (fun _ hk => (by first | exact ⟨hk.1.1, ⟨hk.2, hk.1.2⟩⟩ | grind))), fun _ => (by (with_reducible repeat (first | apply Kd.R_alloc | apply Kd.R_drewN | apply Kd.R_drew)); exact Kd.R_mono HO154.out (fun _ hk => hk.1)), fun h0_ => absurd ((hoff 8 (by kernel_rfl)).symm.trans h0_) (by decide)⟩
          refine steps_cons ?_ ?_
          · rintro b a w' ⟨v144, v147, v150, v153, m8_, ha, Q_HO0_6, Q_HO0_8, Q_BK132, Q_HB, Q_HO145, Q_HO148, Q_HO151, Q_HO154, Q_X8_⟩ hb_ hon hoff
            refine ⟨_, rfl, fun K hK => ?_⟩
            have e28 : a.tmps[28]? = some (v153) := by rw [ha]; exact putSel_on (e := (7, 28, v153)) 5 rfl rfl (hon 7 (by kernel_rfl)) rfl
            replace ha := Aside0.mk ha
            have HO0_6 := Aside0.mk Q_HO0_6
            have HO0_8 := Aside0.mk Q_HO0_8
            have BK132 := Aside0.mk Q_BK132
            have HB := Aside0.mk Q_HB
            have HO151 := Aside0.mk (Q_HO151 (hon 6 (by kernel_rfl)))
            have HO154 := Aside0.mk (Q_HO154 (hon 7 (by kernel_rfl)))
            refine value_ (w1 := w') (v := v153) (by rfl) rfl ?_ ?_
            · go_simp
              (try simp only [i64_w])
              try rfl
            refine hK.out _ _ ⟨v144, v147, v150, v153, (v153), (by rw [ha.out]; exact putSel_upk 6 hb_ rfl rfl rfl), Q_HO0_6, Q_HO0_8, Q_BK132, Q_HB, fun _ h1_ => absurd ((hon 6 (by kernel_rfl)).symm.trans h1_) (by decide), fun _ h1_ => absurd ((hon 6 (by kernel_rfl)).symm.trans h1_) (by decide), Q_HO151, Q_HO154, fun _ => rfl⟩
          refine steps_cons ?_ ?_
          · rintro b a w' ⟨v144, v147, v150, v153, m8_, ha, Q_HO0_6, Q_HO0_8, Q_BK132, Q_HB, Q_HO145, Q_HO148, Q_HO151, Q_HO154, Q_X8_⟩ hb_ hon hoff
            refine ⟨_, rfl, fun K hK => ?_⟩
            replace ha := Aside0.mk ha
            have HO0_6 := Aside0.mk Q_HO0_6
            have HO0_8 := Aside0.mk Q_HO0_8
            have BK132 := Aside0.mk Q_BK132
            have HB := Aside0.mk Q_HB
            have HO151 := Aside0.mk (Q_HO151 (hon 6 (by kernel_rfl)))
            have HO154 := Aside0.mk (Q_HO154 (hon 7 (by kernel_rfl)))
            refine value_ (w1 := w') (v := .int .i64 0) (by rfl) rfl ?_ ?_
            · go_simp
              (try simp only [i64_w])
              try rfl
            refine hK.out _ _ ⟨v144, v147, v150, v153, m8_, (by rw [ha.out]; exact putSel_upk 7 hb_ rfl rfl rfl), Q_HO0_6, Q_HO0_8, Q_BK132, Q_HB, fun _ h1_ => absurd ((hon 6 (by kernel_rfl)).symm.trans h1_) (by decide), fun _ h1_ => absurd ((hon 6 (by kernel_rfl)).symm.trans h1_) (by decide), Q_HO151, Q_HO154, Q_X8_⟩
          exact steps_nil
        rintro b a w35 hall ⟨v144, v147, v150, v153, m8_, ha, Q_HO0_6, Q_HO0_8, Q_BK132, Q_HB, Q_HO145, Q_HO148, Q_HO151, Q_HO154, Q_X8_⟩
        clear BK132 HB HO0_6 HO0_8
        have hb0_ := hall 0 (by kernel_rfl)
        have hb2_ := hall 2 (by kernel_rfl)
        have hb3_ := hall 3 (by kernel_rfl)
        have hb5_ := hall 5 (by kernel_rfl)
        have hb6_ := hall 6 (by kernel_rfl)
        have hb7_ := hall 7 (by kernel_rfl)
        have hb8_ := hall 8 (by kernel_rfl)
        have hb9_ := hall 9 (by kernel_rfl)
        subst ha
        obtain rfl := Q_X8_ hb8_
        simp only [putSel, hb0_, hb2_, hb3_, hb5_, hb6_, hb7_, hb8_, hb9_, if_true, Act.put, List.setIfInBounds_toArray, List.set_cons_zero, List.set_cons_succ]
        have HO0_6 := Aside0.mk Q_HO0_6
        clear Q_HO0_6
        have HO0_8 := Aside0.mk Q_HO0_8
        clear Q_HO0_8
        have BK132 := Aside0.mk Q_BK132
        clear Q_BK132
        have HB := Aside0.mk Q_HB
        clear Q_HB
        clear Q_HO145
        clear Q_HO148
        have HO151 := Aside0.mk (Q_HO151 hb6_)
        clear Q_HO151
        have HO154 := Aside0.mk (Q_HO154 hb7_)
        clear Q_HO154
        clear hall hb0_ hb2_ hb3_ hb5_ hb6_ hb7_ hb8_ hb9_
        try go_wp2
        go_ret2
        exact ⟨_, by first | rfl | (simp [errW_none, errW_some] <;> rfl) | (simp [*, errW_none, errW_some] <;> rfl), by (with_reducible repeat (first | apply Kd.R_alloc | apply Kd.R_drewN | apply Kd.R_drew)); exact HO154.out, by repeat (first | (with_reducible first | exact HB.out | apply below_alloc | apply pw_below_drewN | apply below_drew1 | refine below_set ?_ GE132.out) | exact HB.out)⟩
      · rw [if_neg c18] at H
        have c18b0 : (a0_0 == 2) = false := beq_eq_false_iff_ne.mpr c18
        have c18b1 : (a0_0 != 2) = true := bne_iff_ne.mpr c18
        obtain ⟨y155, hy155⟩ : ∃ y_ : List Int, y_ = (([(a0_0) % 256] : List Int)) := ⟨_, rfl⟩
        replace H : ((wire_four.f k a0_2).bind fun t158 => ((words_Store.f k a0_7 8).bind fun t161 => ((words_Join.f k (([y155, t158, t161, l0_8] : List (List Int)))).bind fun t167 => (some (t167, 0))))) = some (r1, r2) := by first | (rw [hy155]; with_reducible exact H) | (have H2_ := (Option.bind_some _ _).symm.trans H; rw [hy155]; with_reducible exact H2_) | (have H2_ := (Option.bind_some _ _).symm.trans H; with_reducible exact H2_) | with_reducible exact H | (rw [hy155]; exact H) | exact H
        have Ny155 := Aside0.mk hy155
        clear hy155
        replace H := Option.bind_eq_some_iff.mp H
        obtain ⟨t158, A360, H⟩ := H
        replace H : ((words_Store.f k a0_7 8).bind fun t161 => ((words_Join.f k (([y155, t158, t161, l0_8] : List (List Int)))).bind fun t167 => (some (t167, 0)))) = some (r1, r2) := H
        have A36 := Aside0.mk A360
        clear A360
        replace H := Option.bind_eq_some_iff.mp H
        obtain ⟨t161, A370, H⟩ := H
        replace H : ((words_Join.f k (([y155, t158, t161, l0_8] : List (List Int)))).bind fun t167 => (some (t167, 0))) = some (r1, r2) := H
        have A37 := Aside0.mk A370
        clear A370
        obtain ⟨y164, hy164⟩ : ∃ y_ : List (List Int), y_ = (([y155, t158, t161, l0_8] : List (List Int))) := ⟨_, rfl⟩
        replace H : ((words_Join.f k y164).bind fun t167 => (some (t167, 0))) = some (r1, r2) := by first | (rw [hy164]; with_reducible exact H) | (have H2_ := (Option.bind_some _ _).symm.trans H; rw [hy164]; with_reducible exact H2_) | (have H2_ := (Option.bind_some _ _).symm.trans H; with_reducible exact H2_) | with_reducible exact H | (rw [hy164]; exact H) | exact H
        have Ny164 := Aside0.mk hy164
        clear hy164
        replace H := Option.bind_eq_some_iff.mp H
        obtain ⟨t167, A380, H⟩ := H
        replace H : (some (t167, 0)) = some (r1, r2) := H
        have A38 := Aside0.mk A380
        clear A380
        simp only [Option.some.injEq, Prod.mk.injEq] at H
        obtain ⟨rfl, rfl⟩ := H
        go_enter Try.func20, Try.ntmps20
        try go_wp2_with (first | ((with_reducible refine gate_dst (N := 1) rfl ?_); refine box_event ?hg (N := 1) ?hd (cs := #[.int .i64 a0_0, .int .u32 a0_1, .int .u32 a0_2, .int .i64 a0_3, .int .i64 a0_4, .int .i64 a0_5, .slice A0_6 l0_6.length c0_6, .int .u64 a0_7, .slice A0_8 l0_8.length c0_8]) (t := 45) ?hr ?_; (case hd => rfl); (case hg => rfl); (case hr => first | (go_simp; done) | (go_simp; rfl)); intro gb132 hg w39 hbox hb; have n0_ := Aside0.mk (Kd.V_below (Kd.V_elderB (by (with_reducible repeat (first | apply Kd.V_alloc | apply Kd.V_drewN | apply Kd.V_drew)); exact HO0_6.out) gb132 (Nat.le_of_eq hg.symm)) hb); have n1_ := Aside0.mk (Kd.V_below (Kd.V_elderB (by (with_reducible repeat (first | apply Kd.V_alloc | apply Kd.V_drewN | apply Kd.V_drew)); exact HO0_8.out) gb132 (Nat.le_of_eq hg.symm)) hb); have n2_ := Aside0.mk (below_step (by repeat (first | (with_reducible first | exact HB.out | apply below_alloc | apply pw_below_drewN | apply below_drew1) | exact HB.out)) hb); have n3_ := Aside0.mk (hbox); have n4_ := Aside0.mk ((by rw [hg]; exact (below_size (by repeat (first | (with_reducible first | exact HB.out | apply below_alloc | apply pw_below_drewN | apply below_drew1) | exact HB.out))) : w.heap.size ≤ gb132)); have n5_ := Aside0.mk ((by rw [hg]; exact (below_size (by repeat (first | (with_reducible first | exact HB.out | apply below_alloc | apply pw_below_drewN | apply below_drew1) | exact HB.out))) : w.heap.size ≤ gb132)); clear HO0_6; clear HO0_8; clear HB; have HO0_6 := n0_; have HO0_8 := n1_; have HB := n2_; have BK132 := n3_; have GW132 := n4_; have GE132 := n5_; clear n0_ n1_ n2_ n3_ n4_ n5_; clear hb hbox hg; have hcz40_0 : w39.cell? ⟨gb132, 0, none⟩ = some (.int .i64 a0_0) := (blk_cell BK132.out 0).trans rfl; have hcz40_1 : w39.cell? ⟨gb132, 1, none⟩ = some (.int .u32 a0_1) := (blk_cell BK132.out 1).trans rfl; have hcz40_2 : w39.cell? ⟨gb132, 2, none⟩ = some (.int .u32 a0_2) := (blk_cell BK132.out 2).trans rfl; have hcz40_3 : w39.cell? ⟨gb132, 3, none⟩ = some (.int .i64 a0_3) := (blk_cell BK132.out 3).trans rfl; have hcz40_4 : w39.cell? ⟨gb132, 4, none⟩ = some (.int .i64 a0_4) := (blk_cell BK132.out 4).trans rfl; have hcz40_5 : w39.cell? ⟨gb132, 5, none⟩ = some (.int .i64 a0_5) := (blk_cell BK132.out 5).trans rfl; have hcz40_6 : w39.cell? ⟨gb132, 6, none⟩ = some (.slice A0_6 l0_6.length c0_6) := (blk_cell BK132.out 6).trans rfl; have hcz40_7 : w39.cell? ⟨gb132, 7, none⟩ = some (.int .u64 a0_7) := (blk_cell BK132.out 7).trans rfl; have hcz40_8 : w39.cell? ⟨gb132, 8, none⟩ = some (.slice A0_8 l0_8.length c0_8) := (blk_cell BK132.out 8).trans rfl; have hfz40_0 := blk_frozen BK132.out 0; have hfz40_1 := blk_frozen BK132.out 1; have hfz40_2 := blk_frozen BK132.out 2; have hfz40_3 := blk_frozen BK132.out 3; have hfz40_4 := blk_frozen BK132.out 4; have hfz40_5 := blk_frozen BK132.out 5; have hfz40_6 := blk_frozen BK132.out 6; have hfz40_7 := blk_frozen BK132.out 7; have hfz40_8 := blk_frozen BK132.out 8) | ((with_reducible refine gate_callee (f := 30) rfl ?_); refine goesL_ (some 5) rfl rfl Try.func30 (by kernel_rfl) rfl #[.agg #[.int .i64 a0_0, .int .u32 a0_1, .int .u32 a0_2, .int .i64 a0_3, .int .i64 a0_4, .int .i64 a0_5, .slice A0_6 l0_6.length c0_6, .int .u64 a0_7, .slice A0_8 l0_8.length c0_8]] rfl (by (try simp only [List.map_toArray, List.map_cons, List.map_nil]); first | done | rfl | (simp only [List.length_drop, List.length_take]; rfl)) ?_; (with_reducible refine (wire_may.calls a0_0 a0_1 a0_2 a0_3 a0_4 a0_5 _ _ l0_6 a0_7 _ _ l0_8 true _ ?side1 ?side2 ?side3 ?side4 A2.out).mono ?_); (case side1 => repeat (first | exact (Kd.V_reads' HO0_6.out).2.2 | (with_reducible refine Kd.C_alloc ?_ _) | (with_reducible refine Kd.C_drewN ?_ _) | (with_reducible refine Kd.C_drew ?_))); (case side2 => exact (Kd.V_reads' HO0_6.out).2.1); (case side3 => repeat (first | exact (Kd.V_reads' HO0_8.out).2.2 | (with_reducible refine Kd.C_alloc ?_ _) | (with_reducible refine Kd.C_drewN ?_ _) | (with_reducible refine Kd.C_drew ?_))); (case side4 => exact (Kd.V_reads' HO0_8.out).2.1); rintro e w41 ⟨rfl, hb⟩; refine ⟨_, rfl, ?_⟩; have n0_ := Aside0.mk (Kd.V_below (by (with_reducible repeat (first | apply Kd.V_alloc | apply Kd.V_drewN | apply Kd.V_drew)); exact HO0_6.out) hb); have n1_ := Aside0.mk (Kd.V_below (by (with_reducible repeat (first | apply Kd.V_alloc | apply Kd.V_drewN | apply Kd.V_drew)); exact HO0_8.out) hb); have n2_ := Aside0.mk (blk_below (g := gb132) (o := .cells #[.int .i64 a0_0, .int .u32 a0_1, .int .u32 a0_2, .int .i64 a0_3, .int .i64 a0_4, .int .i64 a0_5, .slice A0_6 l0_6.length c0_6, .int .u64 a0_7, .slice A0_8 l0_8.length c0_8] 45 (0, 0)) (by (with_reducible repeat (first | refine blk_drewN ?_ _ | refine blk_drew ?_ | refine blk_alloc ?_ _)); exact BK132.out) hb); have n3_ := Aside0.mk (below_step (by repeat (first | (with_reducible first | exact HB.out | apply below_alloc | apply pw_below_drewN | apply below_drew1 | refine below_set ?_ GE132.out) | exact HB.out)) hb); clear HO0_6; clear HO0_8; clear BK132; clear HB; have HO0_6 := n0_; have HO0_8 := n1_; have BK132 := n2_; have HB := n3_; clear n0_ n1_ n2_ n3_; (try clear hb); (try clear hb2); (try clear hk); (try clear hi); have hcz42_0 : w41.cell? ⟨gb132, 0, none⟩ = some (.int .i64 a0_0) := (blk_cell BK132.out 0).trans rfl; have hcz42_1 : w41.cell? ⟨gb132, 1, none⟩ = some (.int .u32 a0_1) := (blk_cell BK132.out 1).trans rfl; have hcz42_2 : w41.cell? ⟨gb132, 2, none⟩ = some (.int .u32 a0_2) := (blk_cell BK132.out 2).trans rfl; have hcz42_3 : w41.cell? ⟨gb132, 3, none⟩ = some (.int .i64 a0_3) := (blk_cell BK132.out 3).trans rfl; have hcz42_4 : w41.cell? ⟨gb132, 4, none⟩ = some (.int .i64 a0_4) := (blk_cell BK132.out 4).trans rfl; have hcz42_5 : w41.cell? ⟨gb132, 5, none⟩ = some (.int .i64 a0_5) := (blk_cell BK132.out 5).trans rfl; have hcz42_6 : w41.cell? ⟨gb132, 6, none⟩ = some (.slice A0_6 l0_6.length c0_6) := (blk_cell BK132.out 6).trans rfl; have hcz42_7 : w41.cell? ⟨gb132, 7, none⟩ = some (.int .u64 a0_7) := (blk_cell BK132.out 7).trans rfl; have hcz42_8 : w41.cell? ⟨gb132, 8, none⟩ = some (.slice A0_8 l0_8.length c0_8) := (blk_cell BK132.out 8).trans rfl; have hfz42_0 := blk_frozen BK132.out 0; have hfz42_1 := blk_frozen BK132.out 1; have hfz42_2 := blk_frozen BK132.out 2; have hfz42_3 := blk_frozen BK132.out 3; have hfz42_4 := blk_frozen BK132.out 4; have hfz42_5 := blk_frozen BK132.out 5; have hfz42_6 := blk_frozen BK132.out 6; have hfz42_7 := blk_frozen BK132.out 7; have hfz42_8 := blk_frozen BK132.out 8))
        have n0_ := Aside0.mk (Kd.V_drew HO0_6.out)
        have n1_ := Aside0.mk (Kd.V_drew HO0_8.out)
        have n2_ := Aside0.mk (blk_drew BK132.out)
        have n3_ := Aside0.mk (below_drew1 HB.out)
        clear HO0_6
        clear HO0_8
        clear BK132
        clear HB
        have HO0_6 := n0_
        have HO0_8 := n1_
        have BK132 := n2_
        have HB := n3_
        clear n0_ n1_ n2_ n3_
        refine start_ (n := 16) (S := fun w' => True) (ds := []) #[false, false, false, false, false, false, false, false, false, false, false, false, false, false, false, false] (by kernel_rfl) rfl rfl trivial (fun hHeld => ?_); refine with_tabW wire_Put.tab8 wire_Put.bits8 (fun HT_ HW_ => ?_)
        generalize w41.drew = w43 at HO0_6 HO0_8 BK132 HB hHeld ⊢
        refine pure_ (i := 0) (N := some 29) (v := ?_) (a' := ?_) #[true, false, false, false, false, false, false, false, false, false, false, false, false, false, false, false] rfl rfl (any_of HT_.out (by kernel_rfl)) (fun _ _ _ h => h) (Or.inl ⟨by rfl, ?_⟩) ?_ ?_
        rotate_left
        · intro w'
          go_simp
          with_reducible rfl
        rotate_left
        · simp only [Act.put, List.setIfInBounds_toArray, List.set_cons_zero, List.set_cons_succ, i64_w, i32_w]
          rfl
        refine pure_ (i := 4) (N := some 33) (v := ?_) (a' := ?_) #[true, false, false, false, true, false, false, false, false, false, false, false, false, false, false, false] rfl rfl (any_of HT_.out (by kernel_rfl)) (fun _ _ _ h => h) (Or.inl ⟨by rfl, ?_⟩) ?_ ?_
        rotate_left
        · intro w'
          go_simp
          with_reducible rfl
        rotate_left
        · simp only [Act.put, List.setIfInBounds_toArray, List.set_cons_zero, List.set_cons_succ, i64_w, i32_w]
          rfl
        refine pure_ (i := 7) (N := some 36) (v := ?_) (a' := ?_) #[true, false, false, false, true, false, false, true, false, false, false, false, false, false, false, false] rfl rfl (any_of HT_.out (by kernel_rfl)) (fun _ _ _ h => h) (Or.inl ⟨by rfl, ?_⟩) ?_ ?_
        rotate_left
        · intro w'
          go_simp
          with_reducible rfl
        rotate_left
        · simp only [Act.put, List.setIfInBounds_toArray, List.set_cons_zero, List.set_cons_succ, i64_w, i32_w]
          rfl
        refine pure_ (i := 10) (N := some 39) (v := ?_) (a' := ?_) #[true, false, false, false, true, false, false, true, false, false, true, false, false, false, false, false] rfl rfl (any_of HT_.out (by kernel_rfl)) (fun _ _ _ h => h) (Or.inl ⟨by rfl, ?_⟩) ?_ ?_
        rotate_left
        · intro w'
          go_simp
          with_reducible rfl
        rotate_left
        · simp only [Act.put, List.setIfInBounds_toArray, List.set_cons_zero, List.set_cons_succ, i64_w, i32_w]
          rfl
        refine inv_at [1, 2, 3, 5, 6, 8, 9, 11, 12, 13, 14, 15] (fun a0_ b a w' => ∃ (v156 : Value) (v159 : Value) (v162 : Value) (v165 : Value) (v168 : Value) (m14_ : Value), a = putSel a0_ b [(1, 30, .int .i64 a0_0), (2, 31, .int .u8 ((a0_0) % 256)), (3, 32, v156), (5, 34, .int .u32 a0_2), (6, 35, v159), (8, 37, .int .u64 a0_7), (9, 38, v162), (11, 40, .slice A0_8 l0_8.length c0_8), (12, 41, v165), (13, 42, v168), (14, 2, m14_), (15, 3, .int .i64 0)] ∧ (Kd.V (Kd.int .u8) 5 w' w.heap.size (fun k_ => ((P0_6_ k_ ∨ P0_8_ k_) ∨ w.heap.size ≤ k_) ∧ k_ ≠ gb132) (.slice A0_6 l0_6.length c0_6) l0_6) ∧ (Kd.V (Kd.int .u8) 5 w' w.heap.size (fun k_ => ((P0_6_ k_ ∨ P0_8_ k_) ∨ w.heap.size ≤ k_) ∧ k_ ≠ gb132) (.slice A0_8 l0_8.length c0_8) l0_8) ∧ (w'.heap[gb132]? = some (.cells #[.int .i64 a0_0, .int .u32 a0_1, .int .u32 a0_2, .int .i64 a0_3, .int .i64 a0_4, .int .i64 a0_5, .slice A0_6 l0_6.length c0_6, .int .u64 a0_7, .slice A0_8 l0_8.length c0_8] 45 (0, 0))) ∧ (Below w.heap.size w w') ∧ (b 3 = true → b 12 = false → Kd.R (Kd.int .u8) 5 w' w.heap.size (fun k_ => (w.heap.size ≤ k_)) v156 y155) ∧ (b 6 = true → b 12 = false → Kd.R (Kd.int .u8) 5 w' w.heap.size (fun k_ => (w.heap.size ≤ k_)) v159 t158) ∧ (b 9 = true → b 12 = false → Kd.R (Kd.int .u8) 5 w' w.heap.size (fun k_ => (w.heap.size ≤ k_)) v162 t161) ∧ (b 12 = true → Kd.N (Kd.slice 5 (Kd.int .u8)) 37 w' w.heap.size (fun k_ => ((P0_6_ k_ ∨ P0_8_ k_) ∨ w.heap.size ≤ k_) ∧ k_ ≠ gb132) v165 y164) ∧ (b 13 = true → Kd.R (Kd.int .u8) 5 w' w.heap.size (fun k_ => (w.heap.size ≤ k_)) v168 t167) ∧ (b 14 = true → (m14_ : Value) = v168)) HT_.out HW_.out (by kernel_rfl) (by kernel_rfl) ?_ ?_ ?_
        · exact ⟨.bool false, .bool false, .bool false, .bool false, .bool false, .bool false, by simp only [putSel, Bool.false_eq_true, if_false], HO0_6.out, HO0_8.out, BK132.out, HB.out, fun h_ => absurd h_ (by decide), fun h_ => absurd h_ (by decide), fun h_ => absurd h_ (by decide), fun h_ => absurd h_ (by decide), fun h_ => absurd h_ (by decide), fun h_ => absurd h_ (by decide)⟩
        · skip
          clear BK132 HB HO0_6 HO0_8
          refine steps_cons ?_ ?_
          · rintro b a w' ⟨v156, v159, v162, v165, v168, m14_, ha, Q_HO0_6, Q_HO0_8, Q_BK132, Q_HB, Q_HO157, Q_HO160, Q_HO163, Q_HO166, Q_HO169, Q_X14_⟩ hb_ hon hoff
            refine ⟨_, rfl, fun K hK => ?_⟩
            have e29 : a.tmps[29]? = some (.pointer (some ⟨gb132, 0, none⟩)) := by rw [ha]; exact (putSel_off rfl).trans rfl
            replace ha := Aside0.mk ha
            have HO0_6 := Aside0.mk Q_HO0_6
            have HO0_8 := Aside0.mk Q_HO0_8
            have BK132 := Aside0.mk Q_BK132
            have HB := Aside0.mk Q_HB
            have hc0_ : w'.cell? ⟨gb132, 0, none⟩ = some (.int .i64 a0_0) := (blk_cell BK132.out 0).trans rfl
            have hc1_ : w'.cell? ⟨gb132, 1, none⟩ = some (.int .u32 a0_1) := (blk_cell BK132.out 1).trans rfl
            have hc2_ : w'.cell? ⟨gb132, 2, none⟩ = some (.int .u32 a0_2) := (blk_cell BK132.out 2).trans rfl
            have hc3_ : w'.cell? ⟨gb132, 3, none⟩ = some (.int .i64 a0_3) := (blk_cell BK132.out 3).trans rfl
            have hc4_ : w'.cell? ⟨gb132, 4, none⟩ = some (.int .i64 a0_4) := (blk_cell BK132.out 4).trans rfl
            have hc5_ : w'.cell? ⟨gb132, 5, none⟩ = some (.int .i64 a0_5) := (blk_cell BK132.out 5).trans rfl
            have hc6_ : w'.cell? ⟨gb132, 6, none⟩ = some (.slice A0_6 l0_6.length c0_6) := (blk_cell BK132.out 6).trans rfl
            have hc7_ : w'.cell? ⟨gb132, 7, none⟩ = some (.int .u64 a0_7) := (blk_cell BK132.out 7).trans rfl
            have hc8_ : w'.cell? ⟨gb132, 8, none⟩ = some (.slice A0_8 l0_8.length c0_8) := (blk_cell BK132.out 8).trans rfl
            refine value_ (w1 := w') (v := .int .i64 a0_0) (by rfl) rfl ?_ ?_
            · go_simp
              (try simp only [i64_w])
              try rfl
            refine hK.out _ _ ⟨v156, v159, v162, v165, v168, m14_, (by rw [ha.out]; exact putSel_upk 0 hb_ rfl rfl rfl), Q_HO0_6, Q_HO0_8, Q_BK132, Q_HB, fun h0_ _ => absurd ((hoff 3 (by kernel_rfl)).symm.trans h0_) (by decide), Q_HO160, Q_HO163, fun h0_ => absurd ((hoff 12 (by kernel_rfl)).symm.trans h0_) (by decide), fun h0_ => absurd ((hoff 13 (by kernel_rfl)).symm.trans h0_) (by decide), fun h0_ => absurd ((hoff 14 (by kernel_rfl)).symm.trans h0_) (by decide)⟩
          refine steps_cons ?_ ?_
          · rintro b a w' ⟨v156, v159, v162, v165, v168, m14_, ha, Q_HO0_6, Q_HO0_8, Q_BK132, Q_HB, Q_HO157, Q_HO160, Q_HO163, Q_HO166, Q_HO169, Q_X14_⟩ hb_ hon hoff
            refine ⟨_, rfl, fun K hK => ?_⟩
            have e30 : a.tmps[30]? = some (.int .i64 a0_0) := by rw [ha]; exact putSel_on (e := (1, 30, .int .i64 a0_0)) 0 rfl rfl (hon 1 (by kernel_rfl)) rfl
            replace ha := Aside0.mk ha
            have HO0_6 := Aside0.mk Q_HO0_6
            have HO0_8 := Aside0.mk Q_HO0_8
            have BK132 := Aside0.mk Q_BK132
            have HB := Aside0.mk Q_HB
            refine value_ (w1 := w') (v := .int .u8 ((a0_0) % 256)) (by rfl) rfl ?_ ?_
            · go_simp
              (try simp only [i64_w])
              try rfl
            refine hK.out _ _ ⟨v156, v159, v162, v165, v168, m14_, (by rw [ha.out]; exact putSel_upk 1 hb_ rfl rfl rfl), Q_HO0_6, Q_HO0_8, Q_BK132, Q_HB, fun h0_ _ => absurd ((hoff 3 (by kernel_rfl)).symm.trans h0_) (by decide), Q_HO160, Q_HO163, fun h0_ => absurd ((hoff 12 (by kernel_rfl)).symm.trans h0_) (by decide), fun h0_ => absurd ((hoff 13 (by kernel_rfl)).symm.trans h0_) (by decide), fun h0_ => absurd ((hoff 14 (by kernel_rfl)).symm.trans h0_) (by decide)⟩
          refine steps_cons ?_ ?_
          · rintro b a w' ⟨v156, v159, v162, v165, v168, m14_, ha, Q_HO0_6, Q_HO0_8, Q_BK132, Q_HB, Q_HO157, Q_HO160, Q_HO163, Q_HO166, Q_HO169, Q_X14_⟩ hb_ hon hoff
            refine ⟨_, rfl, fun K hK => ?_⟩
            have e31 : a.tmps[31]? = some (.int .u8 ((a0_0) % 256)) := by rw [ha]; exact putSel_on (e := (2, 31, .int .u8 ((a0_0) % 256))) 1 rfl rfl (hon 2 (by kernel_rfl)) rfl
            replace ha := Aside0.mk ha
            have HO0_6 := Aside0.mk Q_HO0_6
            have HO0_8 := Aside0.mk Q_HO0_8
            have BK132 := Aside0.mk Q_BK132
            have HB := Aside0.mk Q_HB
            refine Kd.R_lit_step (Kd.int .u8) _ 5 ?hg (N := 32) ?hd (xs := ([(a0_0) % 256] : List Int)) (inner := [.int .u8 ((a0_0) % 256)]) (ok := fun _ => True) (okp := fun _ => True) ?hr ?hp (fun _ hk => hk) trivial (Below.refl _ _) (Nat.le_refl _) (by simp) ?_; (case hd => rfl); (case hg => rfl); (case hr => first | (go_simp; done) | (go_simp; rfl)); (case hp => exact (Reps.one (show Kd.M (Kd.int .u8) _ _ _ ((a0_0) % 256) [.int .u8 ((a0_0) % 256)] from rfl) (Reps.none _ _)))
            intro v156 w44 ho45 hb hg_ hnew_
            clear hg_ hnew_
            (first | rw [← Ny155.out] at ho45 | (simp only [Int.reduceToNat] at ho45; rw [← Ny155.out] at ho45))
            have n0_ := Aside0.mk (Kd.V_elder' (by (with_reducible repeat (first | apply Kd.V_alloc | apply Kd.V_drewN | apply Kd.V_drew)); exact HO0_6.out) (Kd.R_base ho45) hb)
            have n1_ := Aside0.mk (Kd.V_elder' (by (with_reducible repeat (first | apply Kd.V_alloc | apply Kd.V_drewN | apply Kd.V_drew)); exact HO0_8.out) (Kd.R_base ho45) hb)
            have n2_ := Aside0.mk (Kd.R_lower (Kd.R_newM (M := fun k_ => (w.heap.size ≤ k_)) ho45 (below_size (by repeat (first | (with_reducible first | exact HB.out | apply below_alloc | apply pw_below_drewN | apply below_drew1 | refine below_set ?_ GE132.out) | exact HB.out))) (fun k_ h_ => h_)) (below_size (by repeat (first | (with_reducible first | exact HB.out | apply below_alloc | apply pw_below_drewN | apply below_drew1 | refine below_set ?_ GE132.out) | exact HB.out))))
            have n3_ := Aside0.mk (blk_below (g := gb132) (o := .cells #[.int .i64 a0_0, .int .u32 a0_1, .int .u32 a0_2, .int .i64 a0_3, .int .i64 a0_4, .int .i64 a0_5, .slice A0_6 l0_6.length c0_6, .int .u64 a0_7, .slice A0_8 l0_8.length c0_8] 45 (0, 0)) (by (with_reducible repeat (first | refine blk_drewN ?_ _ | refine blk_drew ?_ | refine blk_alloc ?_ _)); exact BK132.out) hb)
            have n4_ := Aside0.mk (below_step (by repeat (first | (with_reducible first | exact HB.out | apply below_alloc | apply pw_below_drewN | apply below_drew1 | refine below_set ?_ GE132.out) | exact HB.out)) hb)
            have z_HO160 := fun (h0_ : b 6 = true) (h1_ : b 12 = false) => (show Kd.R (Kd.int .u8) 5 w44 w.heap.size (fun k_ => (w.heap.size ≤ k_)) v159 t158 from by first | exact (Kd.R_elder' (by (with_reducible repeat (first | apply Kd.R_alloc | apply Kd.R_drewN | apply Kd.R_drew)); exact (Q_HO160 h0_ h1_)) (Kd.R_base ho45) hb) | exact Kd.R_mono (Kd.R_elder' (by (with_reducible repeat (first | apply Kd.R_alloc | apply Kd.R_drewN | apply Kd.R_drew)); exact (Q_HO160 h0_ h1_)) (Kd.R_base ho45) hb) (fun _ h_ => by first | trivial | exact h_ | exact h_.1))
            have z_HO163 := fun (h0_ : b 9 = true) (h1_ : b 12 = false) => (show Kd.R (Kd.int .u8) 5 w44 w.heap.size (fun k_ => (w.heap.size ≤ k_)) v162 t161 from by first | exact (Kd.R_elder' (by (with_reducible repeat (first | apply Kd.R_alloc | apply Kd.R_drewN | apply Kd.R_drew)); exact (Q_HO163 h0_ h1_)) (Kd.R_base ho45) hb) | exact Kd.R_mono (Kd.R_elder' (by (with_reducible repeat (first | apply Kd.R_alloc | apply Kd.R_drewN | apply Kd.R_drew)); exact (Q_HO163 h0_ h1_)) (Kd.R_base ho45) hb) (fun _ h_ => by first | trivial | exact h_ | exact h_.1))
            clear HO0_6
            clear HO0_8
            clear BK132
            clear HB
            have HO0_6 := n0_
            have HO0_8 := n1_
            have HO157 := n2_
            have BK132 := n3_
            have HB := n4_
            clear n0_ n1_ n2_ n3_ n4_
            clear hb ho45
            refine hK.out _ _ ⟨v156, v159, v162, v165, v168, m14_, (by rw [ha.out]; exact putSel_upk 2 hb_ rfl rfl rfl), (by (with_reducible repeat (first | apply Kd.V_alloc | apply Kd.V_drewN | apply Kd.V_drew)); exact Kd.V_mono HO0_6.out (fun _ hk => (by first | exact ⟨hk.1.1, ⟨hk.2, hk.1.2⟩⟩ | grind))), (by (with_reducible repeat (first | apply Kd.V_alloc | apply Kd.V_drewN | apply Kd.V_drew)); exact Kd.V_mono HO0_8.out (fun _ hk => (by first | exact ⟨hk.1.1, ⟨hk.2, hk.1.2⟩⟩ | grind))), (by (with_reducible repeat (first | refine blk_drewN ?_ _ | refine blk_drew ?_ | refine blk_alloc ?_ _)); exact BK132.out), (by repeat (first | (with_reducible first | exact HB.out | apply below_alloc | apply pw_below_drewN | apply below_drew1 | refine below_set ?_ GE132.out) | exact HB.out)), fun _ _ => (by (with_reducible repeat (first | apply Kd.R_alloc | apply Kd.R_drewN | apply Kd.R_drew)); exact Kd.R_mono HO157.out (fun _ hk => hk.1)), z_HO160, z_HO163, fun h0_ => absurd ((hoff 12 (by kernel_rfl)).symm.trans h0_) (by decide), fun h0_ => absurd ((hoff 13 (by kernel_rfl)).symm.trans h0_) (by decide), fun h0_ => absurd ((hoff 14 (by kernel_rfl)).symm.trans h0_) (by decide)⟩
          refine steps_cons ?_ ?_
          · rintro b a w' ⟨v156, v159, v162, v165, v168, m14_, ha, Q_HO0_6, Q_HO0_8, Q_BK132, Q_HB, Q_HO157, Q_HO160, Q_HO163, Q_HO166, Q_HO169, Q_X14_⟩ hb_ hon hoff
            refine ⟨_, rfl, fun K hK => ?_⟩
            have e33 : a.tmps[33]? = some (.pointer (some ⟨gb132, 2, none⟩)) := by rw [ha]; exact (putSel_off rfl).trans rfl
            replace ha := Aside0.mk ha
            have HO0_6 := Aside0.mk Q_HO0_6
            have HO0_8 := Aside0.mk Q_HO0_8
            have BK132 := Aside0.mk Q_BK132
            have HB := Aside0.mk Q_HB
            have hc0_ : w'.cell? ⟨gb132, 0, none⟩ = some (.int .i64 a0_0) := (blk_cell BK132.out 0).trans rfl
            have hc1_ : w'.cell? ⟨gb132, 1, none⟩ = some (.int .u32 a0_1) := (blk_cell BK132.out 1).trans rfl
            have hc2_ : w'.cell? ⟨gb132, 2, none⟩ = some (.int .u32 a0_2) := (blk_cell BK132.out 2).trans rfl
            have hc3_ : w'.cell? ⟨gb132, 3, none⟩ = some (.int .i64 a0_3) := (blk_cell BK132.out 3).trans rfl
            have hc4_ : w'.cell? ⟨gb132, 4, none⟩ = some (.int .i64 a0_4) := (blk_cell BK132.out 4).trans rfl
            have hc5_ : w'.cell? ⟨gb132, 5, none⟩ = some (.int .i64 a0_5) := (blk_cell BK132.out 5).trans rfl
            have hc6_ : w'.cell? ⟨gb132, 6, none⟩ = some (.slice A0_6 l0_6.length c0_6) := (blk_cell BK132.out 6).trans rfl
            have hc7_ : w'.cell? ⟨gb132, 7, none⟩ = some (.int .u64 a0_7) := (blk_cell BK132.out 7).trans rfl
            have hc8_ : w'.cell? ⟨gb132, 8, none⟩ = some (.slice A0_8 l0_8.length c0_8) := (blk_cell BK132.out 8).trans rfl
            refine value_ (w1 := w') (v := .int .u32 a0_2) (by rfl) rfl ?_ ?_
            · go_simp
              (try simp only [i64_w])
              try rfl
            refine hK.out _ _ ⟨v156, v159, v162, v165, v168, m14_, (by rw [ha.out]; exact putSel_upk 3 hb_ rfl rfl rfl), Q_HO0_6, Q_HO0_8, Q_BK132, Q_HB, Q_HO157, fun h0_ _ => absurd ((hoff 6 (by kernel_rfl)).symm.trans h0_) (by decide), fun h0_ _ => absurd ((hoff 9 (by kernel_rfl)).symm.trans h0_) (by decide), fun h0_ => absurd ((hoff 12 (by kernel_rfl)).symm.trans h0_) (by decide), fun h0_ => absurd ((hoff 13 (by kernel_rfl)).symm.trans h0_) (by decide), fun h0_ => absurd ((hoff 14 (by kernel_rfl)).symm.trans h0_) (by decide)⟩
          refine steps_cons ?_ ?_
          · rintro b a w' ⟨v156, v159, v162, v165, v168, m14_, ha, Q_HO0_6, Q_HO0_8, Q_BK132, Q_HB, Q_HO157, Q_HO160, Q_HO163, Q_HO166, Q_HO169, Q_X14_⟩ hb_ hon hoff
            refine ⟨_, rfl, fun K hK => ?_⟩
            have e34 : a.tmps[34]? = some (.int .u32 a0_2) := by rw [ha]; exact putSel_on (e := (5, 34, .int .u32 a0_2)) 3 rfl rfl (hon 5 (by kernel_rfl)) rfl
            replace ha := Aside0.mk ha
            have HO0_6 := Aside0.mk Q_HO0_6
            have HO0_8 := Aside0.mk Q_HO0_8
            have BK132 := Aside0.mk Q_BK132
            have HB := Aside0.mk Q_HB
            refine goes_ Try.func33 (by kernel_rfl) rfl #[.int .u32 a0_2] (by rfl) rfl rfl (by first | (simp only [List.map_toArray, List.map_cons, List.map_nil, Act.eval, Array.getD_eq_getD_getElem?, Option.getD_some, e34]; done) | (simp only [List.map_toArray, List.map_cons, List.map_nil, Act.eval, Array.getD_eq_getD_getElem?, Option.getD_some, e34]; rfl)) ?_
            with_reducible refine (wire_four.calls k a0_2 t158 _ A36.out).mono ?_
            rintro e w44 ⟨v159, rfl, ho0, hb⟩
            refine ⟨_, rfl, ?_⟩
            have n0_ := Aside0.mk (Kd.V_elder' (by (with_reducible repeat (first | apply Kd.V_alloc | apply Kd.V_drewN | apply Kd.V_drew)); exact HO0_6.out) (Kd.R_base ho0) hb)
            have n1_ := Aside0.mk (Kd.V_elder' (by (with_reducible repeat (first | apply Kd.V_alloc | apply Kd.V_drewN | apply Kd.V_drew)); exact HO0_8.out) (Kd.R_base ho0) hb)
            have n2_ := Aside0.mk (Kd.R_lower (Kd.R_newM (M := fun k_ => (w.heap.size ≤ k_)) ho0 (below_size (by repeat (first | (with_reducible first | exact HB.out | apply below_alloc | apply pw_below_drewN | apply below_drew1 | refine below_set ?_ GE132.out) | exact HB.out))) (fun k_ h_ => h_)) (below_size (by repeat (first | (with_reducible first | exact HB.out | apply below_alloc | apply pw_below_drewN | apply below_drew1 | refine below_set ?_ GE132.out) | exact HB.out))))
            have n3_ := Aside0.mk (blk_below (g := gb132) (o := .cells #[.int .i64 a0_0, .int .u32 a0_1, .int .u32 a0_2, .int .i64 a0_3, .int .i64 a0_4, .int .i64 a0_5, .slice A0_6 l0_6.length c0_6, .int .u64 a0_7, .slice A0_8 l0_8.length c0_8] 45 (0, 0)) (by (with_reducible repeat (first | refine blk_drewN ?_ _ | refine blk_drew ?_ | refine blk_alloc ?_ _)); exact BK132.out) hb)
            have n4_ := Aside0.mk (below_step (by repeat (first | (with_reducible first | exact HB.out | apply below_alloc | apply pw_below_drewN | apply below_drew1 | refine below_set ?_ GE132.out) | exact HB.out)) hb)
            have z_HO157 := fun (h0_ : b 3 = true) (h1_ : b 12 = false) => (show Kd.R (Kd.int .u8) 5 w44 w.heap.size (fun k_ => (w.heap.size ≤ k_)) v156 y155 from by first | exact (Kd.R_elder' (by (with_reducible repeat (first | apply Kd.R_alloc | apply Kd.R_drewN | apply Kd.R_drew)); exact (Q_HO157 h0_ h1_)) (Kd.R_base ho0) hb) | exact Kd.R_mono (Kd.R_elder' (by (with_reducible repeat (first | apply Kd.R_alloc | apply Kd.R_drewN | apply Kd.R_drew)); exact (Q_HO157 h0_ h1_)) (Kd.R_base ho0) hb) (fun _ h_ => by first | trivial | exact h_ | exact h_.1))
            clear HO0_6
            clear HO0_8
            clear BK132
            clear HB
            have HO0_6 := n0_
            have HO0_8 := n1_
            have HO160 := n2_
            have BK132 := n3_
            have HB := n4_
            clear n0_ n1_ n2_ n3_ n4_
            (try clear hb)
            (try clear hb2)
            (try clear hk)
            (try clear hi)
            (try clear ho0)
            refine hK.out _ _ ⟨v156, v159, v162, v165, v168, m14_, (by rw [ha.out]; exact putSel_upk 4 hb_ rfl rfl rfl), (by (with_reducible repeat (first | apply Kd.V_alloc | apply Kd.V_drewN | apply Kd.V_drew)); exact Kd.V_mono HO0_6.out (fun _ hk => (by first | exact ⟨hk.1.1, ⟨hk.2, hk.1.2⟩⟩ | grind))), (by (with_reducible repeat (first | apply Kd.V_alloc | apply Kd.V_drewN | apply Kd.V_drew)); exact Kd.V_mono HO0_8.out (fun _ hk => (by first | exact ⟨hk.1.1, ⟨hk.2, hk.1.2⟩⟩ | grind))), (by (with_reducible repeat (first | refine blk_drewN ?_ _ | refine blk_drew ?_ | refine blk_alloc ?_ _)); exact BK132.out), (by repeat (first | (with_reducible first | exact HB.out | apply below_alloc | apply pw_below_drewN | apply below_drew1 | refine below_set ?_ GE132.out) | exact HB.out)), z_HO157, fun _ _ => (by (with_reducible repeat (first | apply Kd.R_alloc | apply Kd.R_drewN | apply Kd.R_drew)); exact Kd.R_mono HO160.out (fun _ hk => hk.1)), fun h0_ _ => absurd ((hoff 9 (by kernel_rfl)).symm.trans h0_) (by decide), fun h0_ => absurd ((hoff 12 (by kernel_rfl)).symm.trans h0_) (by decide), fun h0_ => absurd ((hoff 13 (by kernel_rfl)).symm.trans h0_) (by decide), fun h0_ => absurd ((hoff 14 (by kernel_rfl)).symm.trans h0_) (by decide)⟩
          refine steps_cons ?_ ?_
          · rintro b a w' ⟨v156, v159, v162, v165, v168, m14_, ha, Q_HO0_6, Q_HO0_8, Q_BK132, Q_HB, Q_HO157, Q_HO160, Q_HO163, Q_HO166, Q_HO169, Q_X14_⟩ hb_ hon hoff
            refine ⟨_, rfl, fun K hK => ?_⟩
            have e36 : a.tmps[36]? = some (.pointer (some ⟨gb132, 7, none⟩)) := by rw [ha]; exact (putSel_off rfl).trans rfl
            replace ha := Aside0.mk ha
            have HO0_6 := Aside0.mk Q_HO0_6
            have HO0_8 := Aside0.mk Q_HO0_8
            have BK132 := Aside0.mk Q_BK132
            have HB := Aside0.mk Q_HB
            have hc0_ : w'.cell? ⟨gb132, 0, none⟩ = some (.int .i64 a0_0) := (blk_cell BK132.out 0).trans rfl
            have hc1_ : w'.cell? ⟨gb132, 1, none⟩ = some (.int .u32 a0_1) := (blk_cell BK132.out 1).trans rfl
            have hc2_ : w'.cell? ⟨gb132, 2, none⟩ = some (.int .u32 a0_2) := (blk_cell BK132.out 2).trans rfl
            have hc3_ : w'.cell? ⟨gb132, 3, none⟩ = some (.int .i64 a0_3) := (blk_cell BK132.out 3).trans rfl
            have hc4_ : w'.cell? ⟨gb132, 4, none⟩ = some (.int .i64 a0_4) := (blk_cell BK132.out 4).trans rfl
            have hc5_ : w'.cell? ⟨gb132, 5, none⟩ = some (.int .i64 a0_5) := (blk_cell BK132.out 5).trans rfl
            have hc6_ : w'.cell? ⟨gb132, 6, none⟩ = some (.slice A0_6 l0_6.length c0_6) := (blk_cell BK132.out 6).trans rfl
            have hc7_ : w'.cell? ⟨gb132, 7, none⟩ = some (.int .u64 a0_7) := (blk_cell BK132.out 7).trans rfl
            have hc8_ : w'.cell? ⟨gb132, 8, none⟩ = some (.slice A0_8 l0_8.length c0_8) := (blk_cell BK132.out 8).trans rfl
            refine value_ (w1 := w') (v := .int .u64 a0_7) (by rfl) rfl ?_ ?_
            · go_simp
              (try simp only [i64_w])
              try rfl
            refine hK.out _ _ ⟨v156, v159, v162, v165, v168, m14_, (by rw [ha.out]; exact putSel_upk 5 hb_ rfl rfl rfl), Q_HO0_6, Q_HO0_8, Q_BK132, Q_HB, Q_HO157, Q_HO160, fun h0_ _ => absurd ((hoff 9 (by kernel_rfl)).symm.trans h0_) (by decide), fun h0_ => absurd ((hoff 12 (by kernel_rfl)).symm.trans h0_) (by decide), fun h0_ => absurd ((hoff 13 (by kernel_rfl)).symm.trans h0_) (by decide), fun h0_ => absurd ((hoff 14 (by kernel_rfl)).symm.trans h0_) (by decide)⟩
          refine steps_cons ?_ ?_
          · rintro b a w' ⟨v156, v159, v162, v165, v168, m14_, ha, Q_HO0_6, Q_HO0_8, Q_BK132, Q_HB, Q_HO157, Q_HO160, Q_HO163, Q_HO166, Q_HO169, Q_X14_⟩ hb_ hon hoff
            refine ⟨_, rfl, fun K hK => ?_⟩
            have e37 : a.tmps[37]? = some (.int .u64 a0_7) := by rw [ha]; exact putSel_on (e := (8, 37, .int .u64 a0_7)) 5 rfl rfl (hon 8 (by kernel_rfl)) rfl
            replace ha := Aside0.mk ha
            have HO0_6 := Aside0.mk Q_HO0_6
            have HO0_8 := Aside0.mk Q_HO0_8
            have BK132 := Aside0.mk Q_BK132
            have HB := Aside0.mk Q_HB
            have HO160 := Aside0.mk (Q_HO160 (hon 6 (by kernel_rfl)) (hoff 12 (by kernel_rfl)))
            refine goes_ Try.func34 (by kernel_rfl) rfl #[.int .u64 a0_7, .int .i64 8] (by rfl) rfl rfl (by first | (simp only [List.map_toArray, List.map_cons, List.map_nil, Act.eval, Array.getD_eq_getD_getElem?, Option.getD_some, e37]; done) | (simp only [List.map_toArray, List.map_cons, List.map_nil, Act.eval, Array.getD_eq_getD_getElem?, Option.getD_some, e37]; rfl)) ?_
            with_reducible refine (words_Store.calls k a0_7 8 t161 _ A37.out).mono ?_
            rintro e w46 ⟨v162, rfl, ho0, hb⟩
            refine ⟨_, rfl, ?_⟩
            have n0_ := Aside0.mk (Kd.V_elder' (by (with_reducible repeat (first | apply Kd.V_alloc | apply Kd.V_drewN | apply Kd.V_drew)); exact HO0_6.out) (Kd.R_base ho0) hb)
            have n1_ := Aside0.mk (Kd.V_elder' (by (with_reducible repeat (first | apply Kd.V_alloc | apply Kd.V_drewN | apply Kd.V_drew)); exact HO0_8.out) (Kd.R_base ho0) hb)
            have n2_ := Aside0.mk (Kd.R_elder' (by (with_reducible repeat (first | apply Kd.R_alloc | apply Kd.R_drewN | apply Kd.R_drew)); exact HO160.out) (Kd.R_base ho0) hb)
            have n3_ := Aside0.mk (Kd.R_lower (Kd.R_new' (Kd.R_newM (M := fun k_ => (w.heap.size ≤ k_)) ho0 (below_size (by repeat (first | (with_reducible first | exact HB.out | apply below_alloc | apply pw_below_drewN | apply below_drew1 | refine below_set ?_ GE132.out) | exact HB.out))) (fun k_ h_ => h_)) (Kd.R_lt (by (with_reducible repeat (first | apply Kd.R_alloc | apply Kd.R_drewN | apply Kd.R_drew)); exact HO160.out))) (below_size (by repeat (first | (with_reducible first | exact HB.out | apply below_alloc | apply pw_below_drewN | apply below_drew1 | refine below_set ?_ GE132.out) | exact HB.out))))
            have n4_ := Aside0.mk (blk_below (g := gb132) (o := .cells #[.int .i64 a0_0, .int .u32 a0_1, .int .u32 a0_2, .int .i64 a0_3, .int .i64 a0_4, .int .i64 a0_5, .slice A0_6 l0_6.length c0_6, .int .u64 a0_7, .slice A0_8 l0_8.length c0_8] 45 (0, 0)) (by (with_reducible repeat (first | refine blk_drewN ?_ _ | refine blk_drew ?_ | refine blk_alloc ?_ _)); exact BK132.out) hb)
            have n5_ := Aside0.mk (below_step (by repeat (first | (with_reducible first | exact HB.out | apply below_alloc | apply pw_below_drewN | apply below_drew1 | refine below_set ?_ GE132.out) | exact HB.out)) hb)
            have z_HO157 := fun (h0_ : b 3 = true) (h1_ : b 12 = false) => (show Kd.R (Kd.int .u8) 5 w46 w.heap.size (fun k_ => (w.heap.size ≤ k_)) v156 y155 from by first | exact (Kd.R_elder' (by (with_reducible repeat (first | apply Kd.R_alloc | apply Kd.R_drewN | apply Kd.R_drew)); exact (Q_HO157 h0_ h1_)) (Kd.R_base ho0) hb) | exact Kd.R_mono (Kd.R_elder' (by (with_reducible repeat (first | apply Kd.R_alloc | apply Kd.R_drewN | apply Kd.R_drew)); exact (Q_HO157 h0_ h1_)) (Kd.R_base ho0) hb) (fun _ h_ => by first | trivial | exact h_ | exact h_.1))
            clear HO0_6
            clear HO0_8
            clear HO160
            clear BK132
            clear HB
            have HO0_6 := n0_
            have HO0_8 := n1_
            have HO160 := n2_
            have HO163 := n3_
            have BK132 := n4_
            have HB := n5_
            clear n0_ n1_ n2_ n3_ n4_ n5_
            (try clear hb)
            (try clear hb2)
            (try clear hk)
            (try clear hi)
            (try clear ho0)
            refine hK.out _ _ ⟨v156, v159, v162, v165, v168, m14_, (by rw [ha.out]; exact putSel_upk 6 hb_ rfl rfl rfl), (by (with_reducible repeat (first | apply Kd.V_alloc | apply Kd.V_drewN | apply Kd.V_drew)); exact Kd.V_mono HO0_6.out (fun _ hk => (by first | exact ⟨hk.1.1, ⟨hk.1.2.1, ⟨hk.2, hk.1.2.2⟩⟩⟩ | grind))), (by (with_reducible repeat (first | apply Kd.V_alloc | apply Kd.V_drewN | apply Kd.V_drew)); exact Kd.V_mono HO0_8.out (fun _ hk => (by first | exact ⟨hk.1.1, ⟨hk.1.2.1, ⟨hk.2, hk.1.2.2⟩⟩⟩ | grind))), (by (with_reducible repeat (first | refine blk_drewN ?_ _ | refine blk_drew ?_ | refine blk_alloc ?_ _)); exact BK132.out), (by repeat (first | (with_reducible first | exact HB.out | apply below_alloc | apply pw_below_drewN | apply below_drew1 | refine below_set ?_ GE132.out) | exact HB.out)), z_HO157, fun _ _ => (by (with_reducible repeat (first | apply Kd.R_alloc | apply Kd.R_drewN | apply Kd.R_drew)); first | exact HO160.out | exact Kd.R_mono HO160.out (fun _ hk => hk.1)), fun _ _ => (by (with_reducible repeat (first | apply Kd.R_alloc | apply Kd.R_drewN | apply Kd.R_drew)); exact Kd.R_mono HO163.out (fun _ hk => (by first | exact ⟨hk.1.1, hk.2⟩ | grind))), fun h0_ => absurd ((hoff 12 (by kernel_rfl)).symm.trans h0_) (by decide), fun h0_ => absurd ((hoff 13 (by kernel_rfl)).symm.trans h0_) (by decide), fun h0_ => absurd ((hoff 14 (by kernel_rfl)).symm.trans h0_) (by decide)⟩
          refine steps_cons ?_ ?_
          · rintro b a w' ⟨v156, v159, v162, v165, v168, m14_, ha, Q_HO0_6, Q_HO0_8, Q_BK132, Q_HB, Q_HO157, Q_HO160, Q_HO163, Q_HO166, Q_HO169, Q_X14_⟩ hb_ hon hoff
            refine ⟨_, rfl, fun K hK => ?_⟩
            have e39 : a.tmps[39]? = some (.pointer (some ⟨gb132, 8, none⟩)) := by rw [ha]; exact (putSel_off rfl).trans rfl
            replace ha := Aside0.mk ha
            have HO0_6 := Aside0.mk Q_HO0_6
            have HO0_8 := Aside0.mk Q_HO0_8
            have BK132 := Aside0.mk Q_BK132
            have HB := Aside0.mk Q_HB
            have hc0_ : w'.cell? ⟨gb132, 0, none⟩ = some (.int .i64 a0_0) := (blk_cell BK132.out 0).trans rfl
            have hc1_ : w'.cell? ⟨gb132, 1, none⟩ = some (.int .u32 a0_1) := (blk_cell BK132.out 1).trans rfl
            have hc2_ : w'.cell? ⟨gb132, 2, none⟩ = some (.int .u32 a0_2) := (blk_cell BK132.out 2).trans rfl
            have hc3_ : w'.cell? ⟨gb132, 3, none⟩ = some (.int .i64 a0_3) := (blk_cell BK132.out 3).trans rfl
            have hc4_ : w'.cell? ⟨gb132, 4, none⟩ = some (.int .i64 a0_4) := (blk_cell BK132.out 4).trans rfl
            have hc5_ : w'.cell? ⟨gb132, 5, none⟩ = some (.int .i64 a0_5) := (blk_cell BK132.out 5).trans rfl
            have hc6_ : w'.cell? ⟨gb132, 6, none⟩ = some (.slice A0_6 l0_6.length c0_6) := (blk_cell BK132.out 6).trans rfl
            have hc7_ : w'.cell? ⟨gb132, 7, none⟩ = some (.int .u64 a0_7) := (blk_cell BK132.out 7).trans rfl
            have hc8_ : w'.cell? ⟨gb132, 8, none⟩ = some (.slice A0_8 l0_8.length c0_8) := (blk_cell BK132.out 8).trans rfl
            refine value_ (w1 := w') (v := .slice A0_8 l0_8.length c0_8) (by rfl) rfl ?_ ?_
            · go_simp
              (try simp only [i64_w])
              try rfl
            refine hK.out _ _ ⟨v156, v159, v162, v165, v168, m14_, (by rw [ha.out]; exact putSel_upk 7 hb_ rfl rfl rfl), Q_HO0_6, Q_HO0_8, Q_BK132, Q_HB, Q_HO157, Q_HO160, Q_HO163, fun h0_ => absurd ((hoff 12 (by kernel_rfl)).symm.trans h0_) (by decide), fun h0_ => absurd ((hoff 13 (by kernel_rfl)).symm.trans h0_) (by decide), fun h0_ => absurd ((hoff 14 (by kernel_rfl)).symm.trans h0_) (by decide)⟩
          refine steps_cons ?_ ?_
          · rintro b a w' ⟨v156, v159, v162, v165, v168, m14_, ha, Q_HO0_6, Q_HO0_8, Q_BK132, Q_HB, Q_HO157, Q_HO160, Q_HO163, Q_HO166, Q_HO169, Q_X14_⟩ hb_ hon hoff
            refine ⟨_, rfl, fun K hK => ?_⟩
            have e32 : a.tmps[32]? = some (v156) := by rw [ha]; exact putSel_on (e := (3, 32, v156)) 2 rfl rfl (hon 3 (by kernel_rfl)) rfl
            have e35 : a.tmps[35]? = some (v159) := by rw [ha]; exact putSel_on (e := (6, 35, v159)) 4 rfl rfl (hon 6 (by kernel_rfl)) rfl
            have e38 : a.tmps[38]? = some (v162) := by rw [ha]; exact putSel_on (e := (9, 38, v162)) 6 rfl rfl (hon 9 (by kernel_rfl)) rfl
            have e40 : a.tmps[40]? = some (.slice A0_8 l0_8.length c0_8) := by rw [ha]; exact putSel_on (e := (11, 40, .slice A0_8 l0_8.length c0_8)) 7 rfl rfl (hon 11 (by kernel_rfl)) rfl
            replace ha := Aside0.mk ha
            have HO0_6 := Aside0.mk Q_HO0_6
            have HO0_8 := Aside0.mk Q_HO0_8
            have BK132 := Aside0.mk Q_BK132
            have HB := Aside0.mk Q_HB
            have HO157 := Aside0.mk (Q_HO157 (hon 3 (by kernel_rfl)) hb_)
            have HO160 := Aside0.mk (Q_HO160 (hon 6 (by kernel_rfl)) hb_)
            have HO163 := Aside0.mk (Q_HO163 (hon 9 (by kernel_rfl)) hb_)
            obtain ⟨Ao49, co49, eo49⟩ := Kd.R_slice HO157.out
            (first | subst eo49 | (injection eo49 with f1_ f2_ f3_; have f4_ := f1_.symm; have f5_ := f3_.symm; clear f1_ f2_ f3_; subst f4_; subst f5_))
            obtain ⟨Ao50, co50, eo50⟩ := Kd.R_slice HO160.out
            (first | subst eo50 | (injection eo50 with f1_ f2_ f3_; have f4_ := f1_.symm; have f5_ := f3_.symm; clear f1_ f2_ f3_; subst f4_; subst f5_))
            obtain ⟨Ao51, co51, eo51⟩ := Kd.R_slice HO163.out
            (first | subst eo51 | (injection eo51 with f1_ f2_ f3_; have f4_ := f1_.symm; have f5_ := f3_.symm; clear f1_ f2_ f3_; subst f4_; subst f5_))
            refine Kd.N_lit_step (Kd.slice 5 (Kd.int .u8)) _ 37 ?hg (N' := 41) ?hd (xs := ([y155, t158, t161, l0_8] : List (List Int))) (inner := [.slice Ao49 y155.length co49, .slice Ao50 t158.length co50, .slice Ao51 t161.length co51, .slice A0_8 l0_8.length c0_8]) (ok := (fun k_ => ((P0_6_ k_ ∨ P0_8_ k_) ∨ w.heap.size ≤ k_) ∧ k_ ≠ gb132)) (okp := (fun k_ => ((P0_6_ k_ ∨ P0_8_ k_) ∨ w.heap.size ≤ k_) ∧ k_ ≠ gb132)) ?hr ?hp (fun _ hk => hk) ((show ∀ k_, w'.heap.size ≤ k_ → (fun k_ => ((P0_6_ k_ ∨ P0_8_ k_) ∨ w.heap.size ≤ k_) ∧ k_ ≠ gb132) k_ from fun k_ hk => ⟨(.inr (Nat.le_trans (below_size (by repeat (first | (with_reducible first | exact HB.out | apply below_alloc | apply pw_below_drewN | apply below_drew1 | refine below_set ?_ GE132.out) | exact HB.out))) hk)), Kd.freshB (g := gb132) (o := .cells #[.int .i64 a0_0, .int .u32 a0_1, .int .u32 a0_2, .int .i64 a0_3, .int .i64 a0_4, .int .i64 a0_5, .slice A0_6 l0_6.length c0_6, .int .u64 a0_7, .slice A0_8 l0_8.length c0_8] 45 (0, 0)) (by (with_reducible repeat (first | refine blk_drewN ?_ _ | refine blk_drew ?_ | refine blk_alloc ?_ _)); exact BK132.out) k_ hk⟩) _ (Nat.le_refl _)) (Below.refl _ _) (Nat.le_refl _) (by simp) ?_; (case hd => rfl); (case hg => rfl); (case hr => first | (go_simp; done) | (go_simp; rfl)); (case hp => exact (Reps.one (show Kd.FK (Kd.slice 5 (Kd.int .u8)) _ _ y155 [.slice Ao49 y155.length co49] from (Kd.FK_slice_mk (Kd.R_reads' (Kd.R_mono (ok' := (fun k_ => ((P0_6_ k_ ∨ P0_8_ k_) ∨ w.heap.size ≤ k_) ∧ k_ ≠ gb132)) (Kd.R_types (HO157.out) BK132.out (by decide)) (fun k_ hk => (by first | exact ⟨(.inr (hk.1.1)), hk.2⟩ | grind)))).2.1 (Kd.R_F (Kd.R_mono (ok' := (fun k_ => ((P0_6_ k_ ∨ P0_8_ k_) ∨ w.heap.size ≤ k_) ∧ k_ ≠ gb132)) (Kd.R_types (HO157.out) BK132.out (by decide)) (fun k_ hk => (by first | exact ⟨(.inr (hk.1.1)), hk.2⟩ | grind)))))) (Reps.one (show Kd.FK (Kd.slice 5 (Kd.int .u8)) _ _ t158 [.slice Ao50 t158.length co50] from (Kd.FK_slice_mk (Kd.R_reads' (Kd.R_mono (ok' := (fun k_ => ((P0_6_ k_ ∨ P0_8_ k_) ∨ w.heap.size ≤ k_) ∧ k_ ≠ gb132)) (Kd.R_types (HO160.out) BK132.out (by decide)) (fun k_ hk => (by first | exact ⟨(.inr (hk.1.1)), hk.2⟩ | grind)))).2.1 (Kd.R_F (Kd.R_mono (ok' := (fun k_ => ((P0_6_ k_ ∨ P0_8_ k_) ∨ w.heap.size ≤ k_) ∧ k_ ≠ gb132)) (Kd.R_types (HO160.out) BK132.out (by decide)) (fun k_ hk => (by first | exact ⟨(.inr (hk.1.1)), hk.2⟩ | grind)))))) (Reps.one (show Kd.FK (Kd.slice 5 (Kd.int .u8)) _ _ t161 [.slice Ao51 t161.length co51] from (Kd.FK_slice_mk (Kd.R_reads' (Kd.R_mono (ok' := (fun k_ => ((P0_6_ k_ ∨ P0_8_ k_) ∨ w.heap.size ≤ k_) ∧ k_ ≠ gb132)) (Kd.R_types (HO163.out) BK132.out (by decide)) (fun k_ hk => (by first | exact ⟨(.inr (hk.1.1)), hk.2⟩ | grind)))).2.1 (Kd.R_F (Kd.R_mono (ok' := (fun k_ => ((P0_6_ k_ ∨ P0_8_ k_) ∨ w.heap.size ≤ k_) ∧ k_ ≠ gb132)) (Kd.R_types (HO163.out) BK132.out (by decide)) (fun k_ hk => (by first | exact ⟨(.inr (hk.1.1)), hk.2⟩ | grind)))))) (Reps.one (show Kd.FK (Kd.slice 5 (Kd.int .u8)) _ _ l0_8 [.slice A0_8 l0_8.length c0_8] from (Kd.FK_slice_mk (Kd.V_reads' (Kd.V_mono (ok' := (fun k_ => ((P0_6_ k_ ∨ P0_8_ k_) ∨ w.heap.size ≤ k_) ∧ k_ ≠ gb132)) (HO0_8.out) (fun k_ hk => (by first | exact ⟨hk.1, hk.2.2.2.2⟩ | grind)))).2.1 (Kd.V_F (Kd.V_mono (ok' := (fun k_ => ((P0_6_ k_ ∨ P0_8_ k_) ∨ w.heap.size ≤ k_) ∧ k_ ≠ gb132)) (HO0_8.out) (fun k_ hk => (by first | exact ⟨hk.1, hk.2.2.2.2⟩ | grind)))))) (Reps.none _ _))))))
            intro v165 w52 ho53 hb hg_ hnew_
            clear hg_ hnew_
            (first | rw [← Ny164.out] at ho53 | (simp only [Int.reduceToNat] at ho53; rw [← Ny164.out] at ho53))
            have n0_ := Aside0.mk (Kd.V_elder' (by (with_reducible repeat (first | apply Kd.V_alloc | apply Kd.V_drewN | apply Kd.V_drew)); exact HO0_6.out) (Kd.N_base ho53) hb)
            have n1_ := Aside0.mk (Kd.V_elder' (by (with_reducible repeat (first | apply Kd.V_alloc | apply Kd.V_drewN | apply Kd.V_drew)); exact HO0_8.out) (Kd.N_base ho53) hb)
            have n2_ := Aside0.mk (Kd.N_lower ho53 (below_size (by repeat (first | (with_reducible first | exact HB.out | apply below_alloc | apply pw_below_drewN | apply below_drew1 | refine below_set ?_ GE132.out) | exact HB.out))))
            have n3_ := Aside0.mk (blk_below (g := gb132) (o := .cells #[.int .i64 a0_0, .int .u32 a0_1, .int .u32 a0_2, .int .i64 a0_3, .int .i64 a0_4, .int .i64 a0_5, .slice A0_6 l0_6.length c0_6, .int .u64 a0_7, .slice A0_8 l0_8.length c0_8] 45 (0, 0)) (by (with_reducible repeat (first | refine blk_drewN ?_ _ | refine blk_drew ?_ | refine blk_alloc ?_ _)); exact BK132.out) hb)
            have n4_ := Aside0.mk (below_step (by repeat (first | (with_reducible first | exact HB.out | apply below_alloc | apply pw_below_drewN | apply below_drew1 | refine below_set ?_ GE132.out) | exact HB.out)) hb)
            clear HO0_6
            clear HO0_8
            clear BK132
            clear HB
            clear HO157
            clear HO160
            clear HO163
            have HO0_6 := n0_
            have HO0_8 := n1_
            have HO166 := n2_
            have BK132 := n3_
            have HB := n4_
            clear n0_ n1_ n2_ n3_ n4_
            clear hb ho53
            refine hK.out _ _ ⟨.slice Ao49 y155.length co49, .slice Ao50 t158.length co50, .slice Ao51 t161.length co51, v165, v168, m14_, (by rw [ha.out]; exact putSel_upk 8 hb_ rfl rfl rfl), (by (with_reducible repeat (first | apply Kd.V_alloc | apply Kd.V_drewN | apply Kd.V_drew)); exact Kd.V_mono HO0_6.out (fun _ hk => (by first | exact ⟨hk.1.1, ⟨hk.2, hk.1.2.2.2.2⟩⟩ | grind))), (by (with_reducible repeat (first | apply Kd.V_alloc | apply Kd.V_drewN | apply Kd.V_drew)); exact Kd.V_mono HO0_8.out (fun _ hk => (by first | exact ⟨hk.1.1, ⟨hk.2, hk.1.2.2.2.2⟩⟩ | grind))), (by (with_reducible repeat (first | refine blk_drewN ?_ _ | refine blk_drew ?_ | refine blk_alloc ?_ _)); exact BK132.out), (by repeat (first | (with_reducible first | exact HB.out | apply below_alloc | apply pw_below_drewN | apply below_drew1 | refine below_set ?_ GE132.out) | exact HB.out)), fun _ h1_ => absurd ((up_self b 12).symm.trans h1_) (by decide), fun _ h1_ => absurd ((up_self b 12).symm.trans h1_) (by decide), fun _ h1_ => absurd ((up_self b 12).symm.trans h1_) (by decide), fun _ => (by (with_reducible repeat (first | apply Kd.N_alloc | apply Kd.N_drewN | apply Kd.N_drew)); exact HO166.out), fun h0_ => absurd ((hoff 13 (by kernel_rfl)).symm.trans h0_) (by decide), fun h0_ => absurd ((hoff 14 (by kernel_rfl)).symm.trans h0_) (by decide)⟩
          refine steps_cons ?_ ?_
          · rintro b a w' ⟨v156, v159, v162, v165, v168, m14_, ha, Q_HO0_6, Q_HO0_8, Q_BK132, Q_HB, Q_HO157, Q_HO160, Q_HO163, Q_HO166, Q_HO169, Q_X14_⟩ hb_ hon hoff
            refine ⟨_, rfl, fun K hK => ?_⟩
            have e41 : a.tmps[41]? = some (v165) := by rw [ha]; exact putSel_on (e := (12, 41, v165)) 8 rfl rfl (hon 12 (by kernel_rfl)) rfl
            replace ha := Aside0.mk ha
            have HO0_6 := Aside0.mk Q_HO0_6
            have HO0_8 := Aside0.mk Q_HO0_8
            have BK132 := Aside0.mk Q_BK132
            have HB := Aside0.mk Q_HB
            have HO166 := Aside0.mk (Q_HO166 (hon 12 (by kernel_rfl)))
            obtain ⟨Ao54, co54, eo54⟩ := Kd.N_slice HO166.out
            (first | subst eo54 | (injection eo54 with f1_ f2_ f3_; have f4_ := f1_.symm; have f5_ := f3_.symm; clear f1_ f2_ f3_; subst f4_; subst f5_))
            refine goes_ Try.func31 (by kernel_rfl) rfl #[.slice Ao54 y164.length co54] (by rfl) rfl rfl (by first | (simp only [List.map_toArray, List.map_cons, List.map_nil, Act.eval, Array.getD_eq_getD_getElem?, Option.getD_some, e41]; done) | (simp only [List.map_toArray, List.map_cons, List.map_nil, Act.eval, Array.getD_eq_getD_getElem?, Option.getD_some, e41]; rfl)) ?_
            with_reducible refine (words_Join.calls k _ _ y164 t167 _ ?side1 ?side2 A38.out).mono ?_
            (case side1 => repeat (first | exact (Kd.N_reads' HO166.out).2.2 | (with_reducible refine Kd.C_alloc ?_ _) | (with_reducible refine Kd.C_drewN ?_ _) | (with_reducible refine Kd.C_drew ?_)))
            (case side2 => exact (Kd.N_reads' HO166.out).2.1)
            rintro e w55 ⟨v168, rfl, ho0, hb⟩
            refine ⟨_, rfl, ?_⟩
            have n0_ := Aside0.mk (Kd.V_elder' (by (with_reducible repeat (first | apply Kd.V_alloc | apply Kd.V_drewN | apply Kd.V_drew)); exact HO0_6.out) (Kd.R_base ho0) hb)
            have n1_ := Aside0.mk (Kd.V_elder' (by (with_reducible repeat (first | apply Kd.V_alloc | apply Kd.V_drewN | apply Kd.V_drew)); exact HO0_8.out) (Kd.R_base ho0) hb)
            have n2_ := Aside0.mk (Kd.N_elder' (by (with_reducible repeat (first | apply Kd.N_alloc | apply Kd.N_drewN | apply Kd.N_drew)); exact HO166.out) (Kd.R_base ho0) hb)
            have n3_ := Aside0.mk (Kd.R_lower (Kd.R_newM (M := fun k_ => (w.heap.size ≤ k_)) ho0 (below_size (by repeat (first | (with_reducible first | exact HB.out | apply below_alloc | apply pw_below_drewN | apply below_drew1 | refine below_set ?_ GE132.out) | exact HB.out))) (fun k_ h_ => h_)) (below_size (by repeat (first | (with_reducible first | exact HB.out | apply below_alloc | apply pw_below_drewN | apply below_drew1 | refine below_set ?_ GE132.out) | exact HB.out))))
            have n4_ := Aside0.mk (blk_below (g := gb132) (o := .cells #[.int .i64 a0_0, .int .u32 a0_1, .int .u32 a0_2, .int .i64 a0_3, .int .i64 a0_4, .int .i64 a0_5, .slice A0_6 l0_6.length c0_6, .int .u64 a0_7, .slice A0_8 l0_8.length c0_8] 45 (0, 0)) (by (with_reducible repeat (first | refine blk_drewN ?_ _ | refine blk_drew ?_ | refine blk_alloc ?_ _)); exact BK132.out) hb)
            have n5_ := Aside0.mk (below_step (by repeat (first | (with_reducible first | exact HB.out | apply below_alloc | apply pw_below_drewN | apply below_drew1 | refine below_set ?_ GE132.out) | exact HB.out)) hb)
            clear HO0_6
            clear HO0_8
            clear HO166
            clear BK132
            clear HB
            have HO0_6 := n0_
            have HO0_8 := n1_
            have HO166 := n2_
            have HO169 := n3_
            have BK132 := n4_
            have HB := n5_
            clear n0_ n1_ n2_ n3_ n4_ n5_
            (try clear hb)
            (try clear hb2)
            (try clear hk)
            (try clear hi)
            (try clear ho0)
            refine hK.out _ _ ⟨v156, v159, v162, .slice Ao54 y164.length co54, v168, m14_, (by rw [ha.out]; exact putSel_upk 9 hb_ rfl rfl rfl), (by (with_reducible repeat (first | apply Kd.V_alloc | apply Kd.V_drewN | apply Kd.V_drew)); exact Kd.V_mono HO0_6.out (fun _ hk => (by first | exact ⟨hk.1.1, ⟨hk.1.2.1, ⟨hk.2, hk.1.2.2⟩⟩⟩ | grind))), (by (with_reducible repeat (first | apply Kd.V_alloc | apply Kd.V_drewN | apply Kd.V_drew)); exact Kd.V_mono HO0_8.out (fun _ hk => (by first | exact ⟨hk.1.1, ⟨hk.1.2.1, ⟨hk.2, hk.1.2.2⟩⟩⟩ | grind))), (by (with_reducible repeat (first | refine blk_drewN ?_ _ | refine blk_drew ?_ | refine blk_alloc ?_ _)); exact BK132.out), (by repeat (first | (with_reducible first | exact HB.out | apply below_alloc | apply pw_below_drewN | apply below_drew1 | refine below_set ?_ GE132.out) | exact HB.out)), fun _ h1_ => absurd ((hon 12 (by kernel_rfl)).symm.trans h1_) (by decide), fun _ h1_ => absurd ((hon 12 (by kernel_rfl)).symm.trans h1_) (by decide), fun _ h1_ => absurd ((hon 12 (by kernel_rfl)).symm.trans h1_) (by decide), fun _ => (by (with_reducible repeat (first | apply Kd.N_alloc | apply Kd.N_drewN | apply Kd.N_drew)); exact Kd.N_mono HO166.out (fun _ hk => (by first | exact ⟨hk.1.1, ⟨hk.2, hk.1.2⟩⟩ | grind))), fun _ => (by (with_reducible repeat (first | apply Kd.R_alloc | apply Kd.R_drewN | apply Kd.R_drew)); exact Kd.R_mono HO169.out (fun _ hk => hk.1)), fun h0_ => absurd ((hoff 14 (by kernel_rfl)).symm.trans h0_) (by decide)⟩
          refine steps_cons ?_ ?_
          · rintro b a w' ⟨v156, v159, v162, v165, v168, m14_, ha, Q_HO0_6, Q_HO0_8, Q_BK132, Q_HB, Q_HO157, Q_HO160, Q_HO163, Q_HO166, Q_HO169, Q_X14_⟩ hb_ hon hoff
            refine ⟨_, rfl, fun K hK => ?_⟩
            have e42 : a.tmps[42]? = some (v168) := by rw [ha]; exact putSel_on (e := (13, 42, v168)) 9 rfl rfl (hon 13 (by kernel_rfl)) rfl
            replace ha := Aside0.mk ha
            have HO0_6 := Aside0.mk Q_HO0_6
            have HO0_8 := Aside0.mk Q_HO0_8
            have BK132 := Aside0.mk Q_BK132
            have HB := Aside0.mk Q_HB
            have HO166 := Aside0.mk (Q_HO166 (hon 12 (by kernel_rfl)))
            have HO169 := Aside0.mk (Q_HO169 (hon 13 (by kernel_rfl)))
            refine value_ (w1 := w') (v := v168) (by rfl) rfl ?_ ?_
            · go_simp
              (try simp only [i64_w])
              try rfl
            refine hK.out _ _ ⟨v156, v159, v162, v165, v168, (v168), (by rw [ha.out]; exact putSel_upk 10 hb_ rfl rfl rfl), Q_HO0_6, Q_HO0_8, Q_BK132, Q_HB, fun _ h1_ => absurd ((hon 12 (by kernel_rfl)).symm.trans h1_) (by decide), fun _ h1_ => absurd ((hon 12 (by kernel_rfl)).symm.trans h1_) (by decide), fun _ h1_ => absurd ((hon 12 (by kernel_rfl)).symm.trans h1_) (by decide), Q_HO166, Q_HO169, fun _ => rfl⟩
          refine steps_cons ?_ ?_
          · rintro b a w' ⟨v156, v159, v162, v165, v168, m14_, ha, Q_HO0_6, Q_HO0_8, Q_BK132, Q_HB, Q_HO157, Q_HO160, Q_HO163, Q_HO166, Q_HO169, Q_X14_⟩ hb_ hon hoff
            refine ⟨_, rfl, fun K hK => ?_⟩
            replace ha := Aside0.mk ha
            have HO0_6 := Aside0.mk Q_HO0_6
            have HO0_8 := Aside0.mk Q_HO0_8
            have BK132 := Aside0.mk Q_BK132
            have HB := Aside0.mk Q_HB
            have HO166 := Aside0.mk (Q_HO166 (hon 12 (by kernel_rfl)))
            have HO169 := Aside0.mk (Q_HO169 (hon 13 (by kernel_rfl)))
            refine value_ (w1 := w') (v := .int .i64 0) (by rfl) rfl ?_ ?_
            · go_simp
              (try simp only [i64_w])
              try rfl
            refine hK.out _ _ ⟨v156, v159, v162, v165, v168, m14_, (by rw [ha.out]; exact putSel_upk 11 hb_ rfl rfl rfl), Q_HO0_6, Q_HO0_8, Q_BK132, Q_HB, fun _ h1_ => absurd ((hon 12 (by kernel_rfl)).symm.trans h1_) (by decide), fun _ h1_ => absurd ((hon 12 (by kernel_rfl)).symm.trans h1_) (by decide), fun _ h1_ => absurd ((hon 12 (by kernel_rfl)).symm.trans h1_) (by decide), Q_HO166, Q_HO169, Q_X14_⟩
          exact steps_nil
        rintro b a w55 hall ⟨v156, v159, v162, v165, v168, m14_, ha, Q_HO0_6, Q_HO0_8, Q_BK132, Q_HB, Q_HO157, Q_HO160, Q_HO163, Q_HO166, Q_HO169, Q_X14_⟩
        clear BK132 HB HO0_6 HO0_8
        have hb1_ := hall 1 (by kernel_rfl)
        have hb2_ := hall 2 (by kernel_rfl)
        have hb3_ := hall 3 (by kernel_rfl)
        have hb5_ := hall 5 (by kernel_rfl)
        have hb6_ := hall 6 (by kernel_rfl)
        have hb8_ := hall 8 (by kernel_rfl)
        have hb9_ := hall 9 (by kernel_rfl)
        have hb11_ := hall 11 (by kernel_rfl)
        have hb12_ := hall 12 (by kernel_rfl)
        have hb13_ := hall 13 (by kernel_rfl)
        have hb14_ := hall 14 (by kernel_rfl)
        have hb15_ := hall 15 (by kernel_rfl)
        subst ha
        obtain rfl := Q_X14_ hb14_
        simp only [putSel, hb1_, hb2_, hb3_, hb5_, hb6_, hb8_, hb9_, hb11_, hb12_, hb13_, hb14_, hb15_, if_true, Act.put, List.setIfInBounds_toArray, List.set_cons_zero, List.set_cons_succ]
        have HO0_6 := Aside0.mk Q_HO0_6
        clear Q_HO0_6
        have HO0_8 := Aside0.mk Q_HO0_8
        clear Q_HO0_8
        have BK132 := Aside0.mk Q_BK132
        clear Q_BK132
        have HB := Aside0.mk Q_HB
        clear Q_HB
        clear Q_HO157
        clear Q_HO160
        clear Q_HO163
        have HO166 := Aside0.mk (Q_HO166 hb12_)
        clear Q_HO166
        have HO169 := Aside0.mk (Q_HO169 hb13_)
        clear Q_HO169
        clear hall hb1_ hb2_ hb3_ hb5_ hb6_ hb8_ hb9_ hb11_ hb12_ hb13_ hb14_ hb15_
        try go_wp2
        go_ret2
        exact ⟨_, by first | rfl | (simp [errW_none, errW_some] <;> rfl) | (simp [*, errW_none, errW_some] <;> rfl), by (with_reducible repeat (first | apply Kd.R_alloc | apply Kd.R_drewN | apply Kd.R_drew)); exact HO169.out, by repeat (first | (with_reducible first | exact HB.out | apply below_alloc | apply pw_below_drewN | apply below_drew1 | refine below_set ?_ GE132.out) | exact HB.out)⟩
  · replace c3 := Bool.eq_false_iff.mpr c3
    subst c3
    have H1 : (some (([] : List Int), 1)) = some (r1, r2) := by rw [if_neg (show ¬ (false = true) by decide)] at H; exact H
    clear H
    have H := H1
    clear H1
    simp only [Option.some.injEq, Prod.mk.injEq] at H
    obtain ⟨rfl, rfl⟩ := H
    go_enter Try.func20, Try.ntmps20
    go_wp2_with (first | ((with_reducible refine gate_dst (N := 1) rfl ?_); refine box_event ?hg (N := 1) ?hd (cs := #[.int .i64 a0_0, .int .u32 a0_1, .int .u32 a0_2, .int .i64 a0_3, .int .i64 a0_4, .int .i64 a0_5, .slice A0_6 l0_6.length c0_6, .int .u64 a0_7, .slice A0_8 l0_8.length c0_8]) (t := 45) ?hr ?_; (case hd => rfl); (case hg => rfl); (case hr => first | (go_simp; done) | (go_simp; rfl)); intro gb132 hg w56 hbox hb; have n0_ := Aside0.mk (Kd.V_below (Kd.V_elderB (by (with_reducible repeat (first | apply Kd.V_alloc | apply Kd.V_drewN | apply Kd.V_drew)); exact HO0_6.out) gb132 (Nat.le_of_eq hg.symm)) hb); have n1_ := Aside0.mk (Kd.V_below (Kd.V_elderB (by (with_reducible repeat (first | apply Kd.V_alloc | apply Kd.V_drewN | apply Kd.V_drew)); exact HO0_8.out) gb132 (Nat.le_of_eq hg.symm)) hb); have n2_ := Aside0.mk (below_step (by repeat (first | (with_reducible first | exact HB.out | apply below_alloc | apply pw_below_drewN | apply below_drew1) | exact HB.out)) hb); have n3_ := Aside0.mk (hbox); have n4_ := Aside0.mk ((by rw [hg]; exact (below_size (by repeat (first | (with_reducible first | exact HB.out | apply below_alloc | apply pw_below_drewN | apply below_drew1) | exact HB.out))) : w.heap.size ≤ gb132)); have n5_ := Aside0.mk ((by rw [hg]; exact (below_size (by repeat (first | (with_reducible first | exact HB.out | apply below_alloc | apply pw_below_drewN | apply below_drew1) | exact HB.out))) : w.heap.size ≤ gb132)); clear HO0_6; clear HO0_8; clear HB; have HO0_6 := n0_; have HO0_8 := n1_; have HB := n2_; have BK132 := n3_; have GW132 := n4_; have GE132 := n5_; clear n0_ n1_ n2_ n3_ n4_ n5_; clear hb hbox hg; have hcz57_0 : w56.cell? ⟨gb132, 0, none⟩ = some (.int .i64 a0_0) := (blk_cell BK132.out 0).trans rfl; have hcz57_1 : w56.cell? ⟨gb132, 1, none⟩ = some (.int .u32 a0_1) := (blk_cell BK132.out 1).trans rfl; have hcz57_2 : w56.cell? ⟨gb132, 2, none⟩ = some (.int .u32 a0_2) := (blk_cell BK132.out 2).trans rfl; have hcz57_3 : w56.cell? ⟨gb132, 3, none⟩ = some (.int .i64 a0_3) := (blk_cell BK132.out 3).trans rfl; have hcz57_4 : w56.cell? ⟨gb132, 4, none⟩ = some (.int .i64 a0_4) := (blk_cell BK132.out 4).trans rfl; have hcz57_5 : w56.cell? ⟨gb132, 5, none⟩ = some (.int .i64 a0_5) := (blk_cell BK132.out 5).trans rfl; have hcz57_6 : w56.cell? ⟨gb132, 6, none⟩ = some (.slice A0_6 l0_6.length c0_6) := (blk_cell BK132.out 6).trans rfl; have hcz57_7 : w56.cell? ⟨gb132, 7, none⟩ = some (.int .u64 a0_7) := (blk_cell BK132.out 7).trans rfl; have hcz57_8 : w56.cell? ⟨gb132, 8, none⟩ = some (.slice A0_8 l0_8.length c0_8) := (blk_cell BK132.out 8).trans rfl; have hfz57_0 := blk_frozen BK132.out 0; have hfz57_1 := blk_frozen BK132.out 1; have hfz57_2 := blk_frozen BK132.out 2; have hfz57_3 := blk_frozen BK132.out 3; have hfz57_4 := blk_frozen BK132.out 4; have hfz57_5 := blk_frozen BK132.out 5; have hfz57_6 := blk_frozen BK132.out 6; have hfz57_7 := blk_frozen BK132.out 7; have hfz57_8 := blk_frozen BK132.out 8) | ((with_reducible refine gate_callee (f := 30) rfl ?_); refine goesL_ (some 5) rfl rfl Try.func30 (by kernel_rfl) rfl #[.agg #[.int .i64 a0_0, .int .u32 a0_1, .int .u32 a0_2, .int .i64 a0_3, .int .i64 a0_4, .int .i64 a0_5, .slice A0_6 l0_6.length c0_6, .int .u64 a0_7, .slice A0_8 l0_8.length c0_8]] rfl (by (try simp only [List.map_toArray, List.map_cons, List.map_nil]); first | done | rfl | (simp only [List.length_drop, List.length_take]; rfl)) ?_; (with_reducible refine (wire_may.calls a0_0 a0_1 a0_2 a0_3 a0_4 a0_5 _ _ l0_6 a0_7 _ _ l0_8 false _ ?side1 ?side2 ?side3 ?side4 A2.out).mono ?_); (case side1 => repeat (first | exact (Kd.V_reads' HO0_6.out).2.2 | (with_reducible refine Kd.C_alloc ?_ _) | (with_reducible refine Kd.C_drewN ?_ _) | (with_reducible refine Kd.C_drew ?_))); (case side2 => exact (Kd.V_reads' HO0_6.out).2.1); (case side3 => repeat (first | exact (Kd.V_reads' HO0_8.out).2.2 | (with_reducible refine Kd.C_alloc ?_ _) | (with_reducible refine Kd.C_drewN ?_ _) | (with_reducible refine Kd.C_drew ?_))); (case side4 => exact (Kd.V_reads' HO0_8.out).2.1); rintro e w58 ⟨rfl, hb⟩; refine ⟨_, rfl, ?_⟩; have n0_ := Aside0.mk (Kd.V_below (by (with_reducible repeat (first | apply Kd.V_alloc | apply Kd.V_drewN | apply Kd.V_drew)); exact HO0_6.out) hb); have n1_ := Aside0.mk (Kd.V_below (by (with_reducible repeat (first | apply Kd.V_alloc | apply Kd.V_drewN | apply Kd.V_drew)); exact HO0_8.out) hb); have n2_ := Aside0.mk (blk_below (g := gb132) (o := .cells #[.int .i64 a0_0, .int .u32 a0_1, .int .u32 a0_2, .int .i64 a0_3, .int .i64 a0_4, .int .i64 a0_5, .slice A0_6 l0_6.length c0_6, .int .u64 a0_7, .slice A0_8 l0_8.length c0_8] 45 (0, 0)) (by (with_reducible repeat (first | refine blk_drewN ?_ _ | refine blk_drew ?_ | refine blk_alloc ?_ _)); exact BK132.out) hb); have n3_ := Aside0.mk (below_step (by repeat (first | (with_reducible first | exact HB.out | apply below_alloc | apply pw_below_drewN | apply below_drew1 | refine below_set ?_ GE132.out) | exact HB.out)) hb); clear HO0_6; clear HO0_8; clear BK132; clear HB; have HO0_6 := n0_; have HO0_8 := n1_; have BK132 := n2_; have HB := n3_; clear n0_ n1_ n2_ n3_; (try clear hb); (try clear hb2); (try clear hk); (try clear hi)))
    go_ret2
    exact ⟨_, by first | rfl | (simp [errW_none, errW_some] <;> rfl) | (simp [*, errW_none, errW_some] <;> rfl), by first | exact Kd.R_nil _ _ _ _ _ | exact Kd.N_nil _ _ _ _ _ | exact Kd.V_nil _ _ _ _ _ | exact Kd.Q_nil _ _ _ _ _ | exact Kd.S_nil _ _ _ _ _, by repeat (first | (with_reducible first | exact HB.out | apply below_alloc | apply pw_below_drewN | apply below_drew1 | refine below_set ?_ GE132.out) | exact HB.out)⟩

end Go.Proofs.Ytkcjgkfgjbhfnaa.Wr
