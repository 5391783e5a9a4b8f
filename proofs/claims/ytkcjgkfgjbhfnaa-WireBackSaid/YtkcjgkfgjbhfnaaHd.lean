-- contracts that the kit's print wrote for this claim, cut and mended by hand
import Derived.Test.YtkcjgkfgjbhfnaaRw2
import Derived.Test.YtkcjgkfgjbhfnaaSto
namespace Go.Proofs.Ytkcjgkfgjbhfnaa.Wr
open Go.RowKit Go.Proofs.YtkcjgkfgjbhfnaaW.PrintWords Go.Proofs.YtkcjgkfgjbhfnaaW.PrintLast Go.Proofs.YtkcjgkfgjbhfnaaW.PrintMore
attribute [local go_sem] max2_int min2_int max_two min_two max_three min_three max_four min_four   -- for this text's walks alone
set_option linter.unusedVariables false
set_option linter.unusedSimpArgs false

/-! ### wire_four: function 33 -/
def wire_four.f (k : Nat) (a0 : Int) : Option (List Int) := (words_Store.f k (IntKind.u64.wrap (a0)) 4).bind fun t110 => (some t110)
theorem wire_four.mono : ∀ a0 k, LeO (wire_four.f k a0) (wire_four.f (k + 1) a0) := by
  intro a0 k
  unfold wire_four.f
  repeat' first
      | (with_reducible exact words_Store.mono _ _ _)
      | (with_reducible exact LeO.refl _)
      | (with_reducible exact LeO.none _)
      | (with_reducible refine LeO.ite ?_ ?_)
      | (with_reducible refine LeO.bind ?_ (fun _ => ?_))
      | exact words_Store.mono _ _ _
      | exact LeO.none _
      | refine LeO.ite ?_ ?_
      | refine LeO.bind ?_ (fun _ => ?_)
set_option maxHeartbeats 8000000 in
set_option maxRecDepth 100000 in
theorem wire_four.calls (k : Nat) (a0 : Int) (r : List Int) (w : World) (h : wire_four.f k a0 = some r) :
    Calls Try.prog 33 #[.int .u32 a0] w fun e w' => ∃ v0_ : Value, e = .returned (v0_) ∧ Kd.R (Kd.int .u8) 5 w' w.heap.size (fun _ => True) v0_ r ∧ Below w.heap.size w w' := by
  have HB := Aside0.mk (Below.refl w.heap.size w)
  have H : ((words_Store.f k (IntKind.u64.wrap (a0)) 4).bind fun t110 => (some t110)) = some r := h
  clear h
  replace H := Option.bind_eq_some_iff.mp H
  obtain ⟨t110, A20, H⟩ := H
  replace H : (some t110) = some r := H
  have A2 := Aside0.mk A20
  clear A20
  obtain rfl := Option.some.inj H
  go_enter Try.func33, Try.ntmps33
  go_wp2_with (first | ((with_reducible refine gate_callee (f := 34) rfl ?_); refine goesL_ (some 5) rfl rfl Try.func34 (by kernel_rfl) rfl #[.int .u64 (IntKind.u64.wrap (a0)), .int .i64 4] rfl (by (try simp only [List.map_toArray, List.map_cons, List.map_nil]); first | done | rfl | (simp only [List.length_drop, List.length_take]; rfl)) ?_; (with_reducible refine (words_Store.calls k (IntKind.u64.wrap (a0)) 4 t110 _ A2.out).mono ?_); rintro e w3 ⟨v111, rfl, ho0, hb⟩; refine ⟨_, rfl, ?_⟩; have n0_ := Aside0.mk (Kd.R_lower ho0 (below_size (by repeat (first | (with_reducible first | exact HB.out | apply below_alloc | apply pw_below_drewN | apply below_drew1) | exact HB.out)))); have n1_ := Aside0.mk (below_step (by repeat (first | (with_reducible first | exact HB.out | apply below_alloc | apply pw_below_drewN | apply below_drew1) | exact HB.out)) hb); clear HB; have HO112 := n0_; have HB := n1_; clear n0_ n1_; (try clear hb); (try clear hb2); (try clear hk); (try clear hi); (try clear ho0)))
  go_ret
  exact ⟨_, by first | rfl | (simp [errW_none, errW_some] <;> rfl) | (simp [*, errW_none, errW_some] <;> rfl), by (with_reducible repeat (first | apply Kd.R_alloc | apply Kd.R_drewN | apply Kd.R_drew)); exact HO112.out, by repeat (first | (with_reducible first | exact HB.out | apply below_alloc | apply pw_below_drewN | apply below_drew1) | exact HB.out)⟩

/-! ### wire_head: function 32 -/
def wire_head.f (k : Nat) (a0_0 : Int) (a0_1 : Int) (a0_2 : Int) (a0_3 : Int) (a0_4 : Int) (a0_5 : Int) (l0_6 : List Int) (a0_7 : Int) (l0_8 : List Int) : Option (List Int) := (wire_four.f k a0_1).bind fun t117 => ((wire_four.f k a0_2).bind fun t120 => ((words_Join.f k (([(([1] : List Int)), t117, t120, (([(a0_3) % 256, (a0_4) % 256, (a0_5) % 256] : List Int))] : List (List Int)))).bind fun t129 => (some t129)))
theorem wire_head.mono : ∀ a0 a1 a2 a3 a4 a5 a6 a7 a8 k, LeO (wire_head.f k a0 a1 a2 a3 a4 a5 a6 a7 a8) (wire_head.f (k + 1) a0 a1 a2 a3 a4 a5 a6 a7 a8) := by
  intro a0 a1 a2 a3 a4 a5 a6 a7 a8 k
  unfold wire_head.f
  repeat' first
      | (with_reducible exact wire_four.mono _ _)
      | (with_reducible exact words_Join.mono _ _)
      | (with_reducible exact LeO.refl _)
      | (with_reducible exact LeO.none _)
      | (with_reducible refine LeO.ite ?_ ?_)
      | (with_reducible refine LeO.bind ?_ (fun _ => ?_))
      | exact wire_four.mono _ _
      | exact words_Join.mono _ _
      | exact LeO.none _
      | refine LeO.ite ?_ ?_
      | refine LeO.bind ?_ (fun _ => ?_)
def wire_head.T1 : Bool × List (List Nat × List Nat) := (true, [([], []), ([], []), ([1], [1]), ([2], [2]), ([], []), ([4], [4]), ([5, 3], [5]), ([], []), ([7], [7]), ([8], [8]), ([], []), ([10], [10]), ([11], [11]), ([], []), ([13], [13]), ([14], [14]), ([9, 12, 15], [9, 12, 15]), ([0, 3, 6, 16], [0, 3, 6, 16]), ([17, 6], [17]), ([18, 18, 0, 1, 2, 3, 4, 5, 6, 7, 8, 9, 10, 11, 12, 13, 14, 15, 16, 17, 18], [18])])
def wire_head.B1 : List Nat := [0, 0, 2, 6, 0, 16, 62, 0, 128, 384, 0, 1024, 3072, 0, 8192, 24576, 65408, 131071, 262143, 524287]
theorem wire_head.tab1 : rtab .any (opsOf Try.f32 1) = wire_head.T1 := by kernel_rfl
theorem wire_head.bits1 : waitsOk wire_head.T1.2 wire_head.B1 = true := by kernel_rfl
set_option maxHeartbeats 8000000 in
set_option maxRecDepth 100000 in
theorem wire_head.calls (k : Nat) (a0_0 : Int) (a0_1 : Int) (a0_2 : Int) (a0_3 : Int) (a0_4 : Int) (a0_5 : Int) (A0_6 : Option Addr) (c0_6 : Nat) (l0_6 : List Int) (a0_7 : Int) (A0_8 : Option Addr) (c0_8 : Nat) (l0_8 : List Int) (r : List Int) (w : World) (hr0_6 : Kd.C (Kd.int .u8) w A0_6 l0_6.length l0_6) (hc0_6 : l0_6.length ≤ c0_6) (hr0_8 : Kd.C (Kd.int .u8) w A0_8 l0_8.length l0_8) (hc0_8 : l0_8.length ≤ c0_8) (h : wire_head.f k a0_0 a0_1 a0_2 a0_3 a0_4 a0_5 l0_6 a0_7 l0_8 = some r) :
    Calls Try.prog 32 #[.agg #[.int .i64 a0_0, .int .u32 a0_1, .int .u32 a0_2, .int .i64 a0_3, .int .i64 a0_4, .int .i64 a0_5, .slice A0_6 l0_6.length c0_6, .int .u64 a0_7, .slice A0_8 l0_8.length c0_8]] w fun e w' => ∃ v0_ : Value, e = .returned (v0_) ∧ Kd.R (Kd.int .u8) 5 w' w.heap.size (fun _ => True) v0_ r ∧ Below w.heap.size w w' := by
  have hu45 := Try.underlying45
  have HR0_6 := Aside0.mk hr0_6
  have HC0_6 := Aside0.mk hc0_6
  clear hr0_6 hc0_6
  have HR0_8 := Aside0.mk hr0_8
  have HC0_8 := Aside0.mk hc0_8
  clear hr0_8 hc0_8
  have HB := Aside0.mk (Below.refl w.heap.size w)
  have H : ((wire_four.f k a0_1).bind fun t117 => ((wire_four.f k a0_2).bind fun t120 => ((words_Join.f k (([(([1] : List Int)), t117, t120, (([(a0_3) % 256, (a0_4) % 256, (a0_5) % 256] : List Int))] : List (List Int)))).bind fun t129 => (some t129)))) = some r := h
  clear h
  obtain ⟨y114, hy114⟩ : ∃ y_ : List Int, y_ = (([1] : List Int)) := ⟨_, rfl⟩
  replace H : ((wire_four.f k a0_1).bind fun t117 => ((wire_four.f k a0_2).bind fun t120 => ((words_Join.f k (([y114, t117, t120, (([(a0_3) % 256, (a0_4) % 256, (a0_5) % 256] : List Int))] : List (List Int)))).bind fun t129 => (some t129)))) = some r := by first | (rw [hy114]; with_reducible exact H) | (have H2_ := (Option.bind_some _ _).symm.trans H; rw [hy114]; with_reducible exact H2_) | (have H2_ := (Option.bind_some _ _).symm.trans H; with_reducible exact H2_) | with_reducible exact H | (rw [hy114]; exact H) | exact H
  have Ny114 := Aside0.mk hy114
  clear hy114
  replace H := Option.bind_eq_some_iff.mp H
  obtain ⟨t117, A20, H⟩ := H
  replace H : ((wire_four.f k a0_2).bind fun t120 => ((words_Join.f k (([y114, t117, t120, (([(a0_3) % 256, (a0_4) % 256, (a0_5) % 256] : List Int))] : List (List Int)))).bind fun t129 => (some t129))) = some r := H
  have A2 := Aside0.mk A20
  clear A20
  replace H := Option.bind_eq_some_iff.mp H
  obtain ⟨t120, A30, H⟩ := H
  replace H : ((words_Join.f k (([y114, t117, t120, (([(a0_3) % 256, (a0_4) % 256, (a0_5) % 256] : List Int))] : List (List Int)))).bind fun t129 => (some t129)) = some r := H
  have A3 := Aside0.mk A30
  clear A30
  obtain ⟨y123, hy123⟩ : ∃ y_ : List Int, y_ = (([(a0_3) % 256, (a0_4) % 256, (a0_5) % 256] : List Int)) := ⟨_, rfl⟩
  replace H : ((words_Join.f k (([y114, t117, t120, y123] : List (List Int)))).bind fun t129 => (some t129)) = some r := by first | (rw [hy123]; with_reducible exact H) | (have H2_ := (Option.bind_some _ _).symm.trans H; rw [hy123]; with_reducible exact H2_) | (have H2_ := (Option.bind_some _ _).symm.trans H; with_reducible exact H2_) | with_reducible exact H | (rw [hy123]; exact H) | exact H
  have Ny123 := Aside0.mk hy123
  clear hy123
  obtain ⟨y126, hy126⟩ : ∃ y_ : List (List Int), y_ = (([y114, t117, t120, y123] : List (List Int))) := ⟨_, rfl⟩
  replace H : ((words_Join.f k y126).bind fun t129 => (some t129)) = some r := by first | (rw [hy126]; with_reducible exact H) | (have H2_ := (Option.bind_some _ _).symm.trans H; rw [hy126]; with_reducible exact H2_) | (have H2_ := (Option.bind_some _ _).symm.trans H; with_reducible exact H2_) | with_reducible exact H | (rw [hy126]; exact H) | exact H
  have Ny126 := Aside0.mk hy126
  clear hy126
  replace H := Option.bind_eq_some_iff.mp H
  obtain ⟨t129, A40, H⟩ := H
  replace H : (some t129) = some r := H
  have A4 := Aside0.mk A40
  clear A40
  obtain rfl := Option.some.inj H
  go_enter Try.func32, Try.ntmps32
  try go_wp2_with (first | ((with_reducible refine gate_dst (N := 1) rfl ?_); refine box_event ?hg (N := 1) ?hd (cs := #[.int .i64 a0_0, .int .u32 a0_1, .int .u32 a0_2, .int .i64 a0_3, .int .i64 a0_4, .int .i64 a0_5, .slice A0_6 l0_6.length c0_6, .int .u64 a0_7, .slice A0_8 l0_8.length c0_8]) (t := 45) ?hr ?_; (case hd => rfl); (case hg => rfl); (case hr => first | (go_simp; done) | (go_simp; rfl)); intro gb113 hg w5 hbox hb; have n0_ := Aside0.mk (below_step (by repeat (first | (with_reducible first | exact HB.out | apply below_alloc | apply pw_below_drewN | apply below_drew1) | exact HB.out)) hb); have n1_ := Aside0.mk (hbox); have n2_ := Aside0.mk ((by rw [hg]; exact (below_size (by repeat (first | (with_reducible first | exact HB.out | apply below_alloc | apply pw_below_drewN | apply below_drew1) | exact HB.out))) : w.heap.size ≤ gb113)); have n3_ := Aside0.mk ((by rw [hg]; exact (below_size (by repeat (first | (with_reducible first | exact HB.out | apply below_alloc | apply pw_below_drewN | apply below_drew1) | exact HB.out))) : w.heap.size ≤ gb113)); clear HB; have HB := n0_; have BK113 := n1_; have GW113 := n2_; have GE113 := n3_; clear n0_ n1_ n2_ n3_; clear hb hbox hg))
  have n0_ := Aside0.mk (blk_drew BK113.out)
  have n1_ := Aside0.mk (below_drew1 HB.out)
  clear BK113
  clear HB
  have BK113 := n0_
  have HB := n1_
  clear n0_ n1_
  refine start_ (n := 20) (S := fun w' => True) (ds := []) #[false, false, false, false, false, false, false, false, false, false, false, false, false, false, false, false, false, false, false, false] (by kernel_rfl) rfl rfl trivial (fun hHeld => ?_); refine with_tabW wire_head.tab1 wire_head.bits1 (fun HT_ HW_ => ?_)
  generalize w5.drew = w6 at BK113 HB hHeld ⊢
  refine pure_ (i := 1) (N := some 4) (v := ?_) (a' := ?_) #[false, true, false, false, false, false, false, false, false, false, false, false, false, false, false, false, false, false, false, false] rfl rfl (any_of HT_.out (by kernel_rfl)) (fun _ _ _ h => h) (Or.inl ⟨by rfl, ?_⟩) ?_ ?_
  rotate_left
  · intro w'
    go_simp
    with_reducible rfl
  rotate_left
  · simp only [Act.put, List.setIfInBounds_toArray, List.set_cons_zero, List.set_cons_succ, i64_w, i32_w]
    rfl
  refine pure_ (i := 4) (N := some 7) (v := ?_) (a' := ?_) #[false, true, false, false, true, false, false, false, false, false, false, false, false, false, false, false, false, false, false, false] rfl rfl (any_of HT_.out (by kernel_rfl)) (fun _ _ _ h => h) (Or.inl ⟨by rfl, ?_⟩) ?_ ?_
  rotate_left
  · intro w'
    go_simp
    with_reducible rfl
  rotate_left
  · simp only [Act.put, List.setIfInBounds_toArray, List.set_cons_zero, List.set_cons_succ, i64_w, i32_w]
    rfl
  refine pure_ (i := 7) (N := some 10) (v := ?_) (a' := ?_) #[false, true, false, false, true, false, false, true, false, false, false, false, false, false, false, false, false, false, false, false] rfl rfl (any_of HT_.out (by kernel_rfl)) (fun _ _ _ h => h) (Or.inl ⟨by rfl, ?_⟩) ?_ ?_
  rotate_left
  · intro w'
    go_simp
    with_reducible rfl
  rotate_left
  · simp only [Act.put, List.setIfInBounds_toArray, List.set_cons_zero, List.set_cons_succ, i64_w, i32_w]
    rfl
  refine pure_ (i := 10) (N := some 13) (v := ?_) (a' := ?_) #[false, true, false, false, true, false, false, true, false, false, true, false, false, false, false, false, false, false, false, false] rfl rfl (any_of HT_.out (by kernel_rfl)) (fun _ _ _ h => h) (Or.inl ⟨by rfl, ?_⟩) ?_ ?_
  rotate_left
  · intro w'
    go_simp
    with_reducible rfl
  rotate_left
  · simp only [Act.put, List.setIfInBounds_toArray, List.set_cons_zero, List.set_cons_succ, i64_w, i32_w]
    rfl
  refine pure_ (i := 13) (N := some 16) (v := ?_) (a' := ?_) #[false, true, false, false, true, false, false, true, false, false, true, false, false, true, false, false, false, false, false, false] rfl rfl (any_of HT_.out (by kernel_rfl)) (fun _ _ _ h => h) (Or.inl ⟨by rfl, ?_⟩) ?_ ?_
  rotate_left
  · intro w'
    go_simp
    with_reducible rfl
  rotate_left
  · simp only [Act.put, List.setIfInBounds_toArray, List.set_cons_zero, List.set_cons_succ, i64_w, i32_w]
    rfl
  refine inv_at [0, 2, 3, 5, 6, 8, 9, 11, 12, 14, 15, 16, 17, 18, 19] (fun a0_ b a w' => ∃ (v115 : Value) (v118 : Value) (v121 : Value) (v124 : Value) (v127 : Value) (v130 : Value) (m19_ : Value), a = putSel a0_ b [(0, 3, v115), (2, 5, .int .u32 a0_1), (3, 6, v118), (5, 8, .int .u32 a0_2), (6, 9, v121), (8, 11, .int .i64 a0_3), (9, 12, .int .u8 ((a0_3) % 256)), (11, 14, .int .i64 a0_4), (12, 15, .int .u8 ((a0_4) % 256)), (14, 17, .int .i64 a0_5), (15, 18, .int .u8 ((a0_5) % 256)), (16, 19, v124), (17, 20, v127), (18, 21, v130), (19, 2, m19_)] ∧ (w'.heap[gb113]? = some (.cells #[.int .i64 a0_0, .int .u32 a0_1, .int .u32 a0_2, .int .i64 a0_3, .int .i64 a0_4, .int .i64 a0_5, .slice A0_6 l0_6.length c0_6, .int .u64 a0_7, .slice A0_8 l0_8.length c0_8] 45 (0, 0))) ∧ (Below w.heap.size w w') ∧ (b 0 = true → b 17 = false → Kd.R (Kd.int .u8) 5 w' w.heap.size (fun _ => True) v115 y114) ∧ (b 3 = true → b 17 = false → Kd.R (Kd.int .u8) 5 w' w.heap.size (fun _ => True) v118 t117) ∧ (b 6 = true → b 17 = false → Kd.R (Kd.int .u8) 5 w' w.heap.size (fun _ => True) v121 t120) ∧ (b 16 = true → b 17 = false → Kd.R (Kd.int .u8) 5 w' w.heap.size (fun _ => True) v124 y123) ∧ (b 17 = true → Kd.N (Kd.slice 5 (Kd.int .u8)) 37 w' w.heap.size (fun k_ => k_ ≠ gb113) v127 y126) ∧ (b 18 = true → Kd.R (Kd.int .u8) 5 w' w.heap.size (fun _ => True) v130 t129) ∧ (b 19 = true → (m19_ : Value) = v130)) HT_.out HW_.out (by kernel_rfl) (by kernel_rfl) ?_ ?_ ?_
  · exact ⟨.bool false, .bool false, .bool false, .bool false, .bool false, .bool false, .bool false, by simp only [putSel, Bool.false_eq_true, if_false], BK113.out, HB.out, fun h_ => absurd h_ (by decide), fun h_ => absurd h_ (by decide), fun h_ => absurd h_ (by decide), fun h_ => absurd h_ (by decide), fun h_ => absurd h_ (by decide), fun h_ => absurd h_ (by decide), fun h_ => absurd h_ (by decide)⟩
  · skip
    clear BK113 HB
    refine steps_cons ?_ ?_
    · rintro b a w' ⟨v115, v118, v121, v124, v127, v130, m19_, ha, Q_BK113, Q_HB, Q_HO116, Q_HO119, Q_HO122, Q_HO125, Q_HO128, Q_HO131, Q_X19_⟩ hb_ hon hoff
      refine ⟨_, rfl, fun K hK => ?_⟩
      replace ha := Aside0.mk ha
      have BK113 := Aside0.mk Q_BK113
      have HB := Aside0.mk Q_HB
      refine Kd.R_lit_step (Kd.int .u8) _ 5 ?hg (N := 3) ?hd (xs := ([1] : List Int)) (inner := [.int .u8 1]) (ok := fun _ => True) (okp := fun _ => True) ?hr ?hp (fun _ hk => hk) trivial (Below.refl _ _) (Nat.le_refl _) (by simp) ?_; (case hd => rfl); (case hg => rfl); (case hr => first | (go_simp; done) | (go_simp; rfl)); (case hp => exact (Reps.one (show Kd.M (Kd.int .u8) _ _ _ 1 [.int .u8 1] from rfl) (Reps.none _ _)))
      intro v115 w7 ho8 hb hg_ hnew_
      clear hg_ hnew_
      (first | rw [← Ny114.out] at ho8 | (simp only [Int.reduceToNat] at ho8; rw [← Ny114.out] at ho8))
      have n0_ := Aside0.mk (Kd.R_lower ho8 (below_size (by repeat (first | (with_reducible first | exact HB.out | apply below_alloc | apply pw_below_drewN | apply below_drew1 | refine below_set ?_ GE113.out) | exact HB.out))))
      have n1_ := Aside0.mk (blk_below (g := gb113) (o := .cells #[.int .i64 a0_0, .int .u32 a0_1, .int .u32 a0_2, .int .i64 a0_3, .int .i64 a0_4, .int .i64 a0_5, .slice A0_6 l0_6.length c0_6, .int .u64 a0_7, .slice A0_8 l0_8.length c0_8] 45 (0, 0)) (by (with_reducible repeat (first | refine blk_drewN ?_ _ | refine blk_drew ?_ | refine blk_alloc ?_ _)); exact BK113.out) hb)
      have n2_ := Aside0.mk (below_step (by repeat (first | (with_reducible first | exact HB.out | apply below_alloc | apply pw_below_drewN | apply below_drew1 | refine below_set ?_ GE113.out) | exact HB.out)) hb)
      have z_HO119 := fun (h0_ : b 3 = true) (h1_ : b 17 = false) => (show Kd.R (Kd.int .u8) 5 w7 w.heap.size (fun _ => True) v118 t117 from by first | exact (Kd.R_elder' (by (with_reducible repeat (first | apply Kd.R_alloc | apply Kd.R_drewN | apply Kd.R_drew)); exact (Q_HO119 h0_ h1_)) (Kd.R_base ho8) hb) | exact Kd.R_mono (Kd.R_elder' (by (with_reducible repeat (first | apply Kd.R_alloc | apply Kd.R_drewN | apply Kd.R_drew)); exact (Q_HO119 h0_ h1_)) (Kd.R_base ho8) hb) (fun _ h_ => by first | trivial | exact h_ | exact h_.1))
      have z_HO122 := fun (h0_ : b 6 = true) (h1_ : b 17 = false) => (show Kd.R (Kd.int .u8) 5 w7 w.heap.size (fun _ => True) v121 t120 from by first | exact (Kd.R_elder' (by (with_reducible repeat (first | apply Kd.R_alloc | apply Kd.R_drewN | apply Kd.R_drew)); exact (Q_HO122 h0_ h1_)) (Kd.R_base ho8) hb) | exact Kd.R_mono (Kd.R_elder' (by (with_reducible repeat (first | apply Kd.R_alloc | apply Kd.R_drewN | apply Kd.R_drew)); exact (Q_HO122 h0_ h1_)) (Kd.R_base ho8) hb) (fun _ h_ => by first | trivial | exact h_ | exact h_.1))
      have z_HO125 := fun (h0_ : b 16 = true) (h1_ : b 17 = false) => (show Kd.R (Kd.int .u8) 5 w7 w.heap.size (fun _ => True) v124 y123 from by first | exact (Kd.R_elder' (by (with_reducible repeat (first | apply Kd.R_alloc | apply Kd.R_drewN | apply Kd.R_drew)); exact (Q_HO125 h0_ h1_)) (Kd.R_base ho8) hb) | exact Kd.R_mono (Kd.R_elder' (by (with_reducible repeat (first | apply Kd.R_alloc | apply Kd.R_drewN | apply Kd.R_drew)); exact (Q_HO125 h0_ h1_)) (Kd.R_base ho8) hb) (fun _ h_ => by first | trivial | exact h_ | exact h_.1))
      clear BK113
      clear HB
      have HO116 := n0_
      have BK113 := n1_
      have HB := n2_
      clear n0_ n1_ n2_
      clear hb ho8
      refine hK.out _ _ ⟨v115, v118, v121, v124, v127, v130, m19_, (by rw [ha.out]; exact putSel_upk 0 hb_ rfl rfl rfl), (by (with_reducible repeat (first | refine blk_drewN ?_ _ | refine blk_drew ?_ | refine blk_alloc ?_ _)); exact BK113.out), (by repeat (first | (with_reducible first | exact HB.out | apply below_alloc | apply pw_below_drewN | apply below_drew1 | refine below_set ?_ GE113.out) | exact HB.out)), fun _ _ => (by (with_reducible repeat (first | apply Kd.R_alloc | apply Kd.R_drewN | apply Kd.R_drew)); exact HO116.out), z_HO119, z_HO122, z_HO125, fun h0_ => absurd ((hoff 17 (by kernel_rfl)).symm.trans h0_) (by decide), fun h0_ => absurd ((hoff 18 (by kernel_rfl)).symm.trans h0_) (by decide), fun h0_ => absurd ((hoff 19 (by kernel_rfl)).symm.trans h0_) (by decide)⟩
    refine steps_cons ?_ ?_
    · rintro b a w' ⟨v115, v118, v121, v124, v127, v130, m19_, ha, Q_BK113, Q_HB, Q_HO116, Q_HO119, Q_HO122, Q_HO125, Q_HO128, Q_HO131, Q_X19_⟩ hb_ hon hoff
      refine ⟨_, rfl, fun K hK => ?_⟩
      have e4 : a.tmps[4]? = some (.pointer (some ⟨gb113, 1, none⟩)) := by rw [ha]; exact (putSel_off rfl).trans rfl
      replace ha := Aside0.mk ha
      have BK113 := Aside0.mk Q_BK113
      have HB := Aside0.mk Q_HB
      have hc0_ : w'.cell? ⟨gb113, 0, none⟩ = some (.int .i64 a0_0) := (blk_cell BK113.out 0).trans rfl
      have hc1_ : w'.cell? ⟨gb113, 1, none⟩ = some (.int .u32 a0_1) := (blk_cell BK113.out 1).trans rfl
      have hc2_ : w'.cell? ⟨gb113, 2, none⟩ = some (.int .u32 a0_2) := (blk_cell BK113.out 2).trans rfl
      have hc3_ : w'.cell? ⟨gb113, 3, none⟩ = some (.int .i64 a0_3) := (blk_cell BK113.out 3).trans rfl
      have hc4_ : w'.cell? ⟨gb113, 4, none⟩ = some (.int .i64 a0_4) := (blk_cell BK113.out 4).trans rfl
      have hc5_ : w'.cell? ⟨gb113, 5, none⟩ = some (.int .i64 a0_5) := (blk_cell BK113.out 5).trans rfl
      have hc6_ : w'.cell? ⟨gb113, 6, none⟩ = some (.slice A0_6 l0_6.length c0_6) := (blk_cell BK113.out 6).trans rfl
      have hc7_ : w'.cell? ⟨gb113, 7, none⟩ = some (.int .u64 a0_7) := (blk_cell BK113.out 7).trans rfl
      have hc8_ : w'.cell? ⟨gb113, 8, none⟩ = some (.slice A0_8 l0_8.length c0_8) := (blk_cell BK113.out 8).trans rfl
      refine value_ (w1 := w') (v := .int .u32 a0_1) (by rfl) rfl ?_ ?_
      · go_simp
        (try simp only [i64_w])
        try rfl
      refine hK.out _ _ ⟨v115, v118, v121, v124, v127, v130, m19_, (by rw [ha.out]; exact putSel_upk 1 hb_ rfl rfl rfl), Q_BK113, Q_HB, Q_HO116, fun h0_ _ => absurd ((hoff 3 (by kernel_rfl)).symm.trans h0_) (by decide), fun h0_ _ => absurd ((hoff 6 (by kernel_rfl)).symm.trans h0_) (by decide), Q_HO125, fun h0_ => absurd ((hoff 17 (by kernel_rfl)).symm.trans h0_) (by decide), fun h0_ => absurd ((hoff 18 (by kernel_rfl)).symm.trans h0_) (by decide), fun h0_ => absurd ((hoff 19 (by kernel_rfl)).symm.trans h0_) (by decide)⟩
    refine steps_cons ?_ ?_
    · rintro b a w' ⟨v115, v118, v121, v124, v127, v130, m19_, ha, Q_BK113, Q_HB, Q_HO116, Q_HO119, Q_HO122, Q_HO125, Q_HO128, Q_HO131, Q_X19_⟩ hb_ hon hoff
      refine ⟨_, rfl, fun K hK => ?_⟩
      have e5 : a.tmps[5]? = some (.int .u32 a0_1) := by rw [ha]; exact putSel_on (e := (2, 5, .int .u32 a0_1)) 1 rfl rfl (hon 2 (by kernel_rfl)) rfl
      replace ha := Aside0.mk ha
      have BK113 := Aside0.mk Q_BK113
      have HB := Aside0.mk Q_HB
      refine goes_ Try.func33 (by kernel_rfl) rfl #[.int .u32 a0_1] (by rfl) rfl rfl (by first | (simp only [List.map_toArray, List.map_cons, List.map_nil, Act.eval, Array.getD_eq_getD_getElem?, Option.getD_some, e5]; done) | (simp only [List.map_toArray, List.map_cons, List.map_nil, Act.eval, Array.getD_eq_getD_getElem?, Option.getD_some, e5]; rfl)) ?_
      with_reducible refine (wire_four.calls k a0_1 t117 _ A2.out).mono ?_
      rintro e w7 ⟨v118, rfl, ho0, hb⟩
      refine ⟨_, rfl, ?_⟩
      have n0_ := Aside0.mk (Kd.R_lower ho0 (below_size (by repeat (first | (with_reducible first | exact HB.out | apply below_alloc | apply pw_below_drewN | apply below_drew1 | refine below_set ?_ GE113.out) | exact HB.out))))
      have n1_ := Aside0.mk (blk_below (g := gb113) (o := .cells #[.int .i64 a0_0, .int .u32 a0_1, .int .u32 a0_2, .int .i64 a0_3, .int .i64 a0_4, .int .i64 a0_5, .slice A0_6 l0_6.length c0_6, .int .u64 a0_7, .slice A0_8 l0_8.length c0_8] 45 (0, 0)) (by (with_reducible repeat (first | refine blk_drewN ?_ _ | refine blk_drew ?_ | refine blk_alloc ?_ _)); exact BK113.out) hb)
      have n2_ := Aside0.mk (below_step (by repeat (first | (with_reducible first | exact HB.out | apply below_alloc | apply pw_below_drewN | apply below_drew1 | refine below_set ?_ GE113.out) | exact HB.out)) hb)
      have z_HO116 := fun (h0_ : b 0 = true) (h1_ : b 17 = false) => (show Kd.R (Kd.int .u8) 5 w7 w.heap.size (fun _ => True) v115 y114 from by first | exact (Kd.R_elder' (by (with_reducible repeat (first | apply Kd.R_alloc | apply Kd.R_drewN | apply Kd.R_drew)); exact (Q_HO116 h0_ h1_)) (Kd.R_base ho0) hb) | exact Kd.R_mono (Kd.R_elder' (by (with_reducible repeat (first | apply Kd.R_alloc | apply Kd.R_drewN | apply Kd.R_drew)); exact (Q_HO116 h0_ h1_)) (Kd.R_base ho0) hb) (fun _ h_ => by first | trivial | exact h_ | exact h_.1))
      have z_HO125 := fun (h0_ : b 16 = true) (h1_ : b 17 = false) => (show Kd.R (Kd.int .u8) 5 w7 w.heap.size (fun _ => True) v124 y123 from by first | exact (Kd.R_elder' (by (with_reducible repeat (first | apply Kd.R_alloc | apply Kd.R_drewN | apply Kd.R_drew)); exact (Q_HO125 h0_ h1_)) (Kd.R_base ho0) hb) | exact Kd.R_mono (Kd.R_elder' (by (with_reducible repeat (first | apply Kd.R_alloc | apply Kd.R_drewN | apply Kd.R_drew)); exact (Q_HO125 h0_ h1_)) (Kd.R_base ho0) hb) (fun _ h_ => by first | trivial | exact h_ | exact h_.1))
      clear BK113
      clear HB
      have HO119 := n0_
      have BK113 := n1_
      have HB := n2_
      clear n0_ n1_ n2_
      (try clear hb)
      (try clear hb2)
      (try clear hk)
      (try clear hi)
      (try clear ho0)
      refine hK.out _ _ ⟨v115, v118, v121, v124, v127, v130, m19_, (by rw [ha.out]; exact putSel_upk 2 hb_ rfl rfl rfl), (by (with_reducible repeat (first | refine blk_drewN ?_ _ | refine blk_drew ?_ | refine blk_alloc ?_ _)); exact BK113.out), (by repeat (first | (with_reducible first | exact HB.out | apply below_alloc | apply pw_below_drewN | apply below_drew1 | refine below_set ?_ GE113.out) | exact HB.out)), z_HO116, fun _ _ => (by (with_reducible repeat (first | apply Kd.R_alloc | apply Kd.R_drewN | apply Kd.R_drew)); exact HO119.out), fun h0_ _ => absurd ((hoff 6 (by kernel_rfl)).symm.trans h0_) (by decide), z_HO125, fun h0_ => absurd ((hoff 17 (by kernel_rfl)).symm.trans h0_) (by decide), fun h0_ => absurd ((hoff 18 (by kernel_rfl)).symm.trans h0_) (by decide), fun h0_ => absurd ((hoff 19 (by kernel_rfl)).symm.trans h0_) (by decide)⟩
    refine steps_cons ?_ ?_
    · rintro b a w' ⟨v115, v118, v121, v124, v127, v130, m19_, ha, Q_BK113, Q_HB, Q_HO116, Q_HO119, Q_HO122, Q_HO125, Q_HO128, Q_HO131, Q_X19_⟩ hb_ hon hoff
      refine ⟨_, rfl, fun K hK => ?_⟩
      have e7 : a.tmps[7]? = some (.pointer (some ⟨gb113, 2, none⟩)) := by rw [ha]; exact (putSel_off rfl).trans rfl
      replace ha := Aside0.mk ha
      have BK113 := Aside0.mk Q_BK113
      have HB := Aside0.mk Q_HB
      have hc0_ : w'.cell? ⟨gb113, 0, none⟩ = some (.int .i64 a0_0) := (blk_cell BK113.out 0).trans rfl
      have hc1_ : w'.cell? ⟨gb113, 1, none⟩ = some (.int .u32 a0_1) := (blk_cell BK113.out 1).trans rfl
      have hc2_ : w'.cell? ⟨gb113, 2, none⟩ = some (.int .u32 a0_2) := (blk_cell BK113.out 2).trans rfl
      have hc3_ : w'.cell? ⟨gb113, 3, none⟩ = some (.int .i64 a0_3) := (blk_cell BK113.out 3).trans rfl
      have hc4_ : w'.cell? ⟨gb113, 4, none⟩ = some (.int .i64 a0_4) := (blk_cell BK113.out 4).trans rfl
      have hc5_ : w'.cell? ⟨gb113, 5, none⟩ = some (.int .i64 a0_5) := (blk_cell BK113.out 5).trans rfl
      have hc6_ : w'.cell? ⟨gb113, 6, none⟩ = some (.slice A0_6 l0_6.length c0_6) := (blk_cell BK113.out 6).trans rfl
      have hc7_ : w'.cell? ⟨gb113, 7, none⟩ = some (.int .u64 a0_7) := (blk_cell BK113.out 7).trans rfl
      have hc8_ : w'.cell? ⟨gb113, 8, none⟩ = some (.slice A0_8 l0_8.length c0_8) := (blk_cell BK113.out 8).trans rfl
      refine value_ (w1 := w') (v := .int .u32 a0_2) (by rfl) rfl ?_ ?_
      · go_simp
        (try simp only [i64_w])
        try rfl
      refine hK.out _ _ ⟨v115, v118, v121, v124, v127, v130, m19_, (by rw [ha.out]; exact putSel_upk 3 hb_ rfl rfl rfl), Q_BK113, Q_HB, Q_HO116, Q_HO119, fun h0_ _ => absurd ((hoff 6 (by kernel_rfl)).symm.trans h0_) (by decide), Q_HO125, fun h0_ => absurd ((hoff 17 (by kernel_rfl)).symm.trans h0_) (by decide), fun h0_ => absurd ((hoff 18 (by kernel_rfl)).symm.trans h0_) (by decide), fun h0_ => absurd ((hoff 19 (by kernel_rfl)).symm.trans h0_) (by decide)⟩
    refine steps_cons ?_ ?_
    · rintro b a w' ⟨v115, v118, v121, v124, v127, v130, m19_, ha, Q_BK113, Q_HB, Q_HO116, Q_HO119, Q_HO122, Q_HO125, Q_HO128, Q_HO131, Q_X19_⟩ hb_ hon hoff
      refine ⟨_, rfl, fun K hK => ?_⟩
      have e8 : a.tmps[8]? = some (.int .u32 a0_2) := by rw [ha]; exact putSel_on (e := (5, 8, .int .u32 a0_2)) 3 rfl rfl (hon 5 (by kernel_rfl)) rfl
      replace ha := Aside0.mk ha
      have BK113 := Aside0.mk Q_BK113
      have HB := Aside0.mk Q_HB
      have HO119 := Aside0.mk (Q_HO119 (hon 3 (by kernel_rfl)) (hoff 17 (by kernel_rfl)))
      refine goes_ Try.func33 (by kernel_rfl) rfl #[.int .u32 a0_2] (by rfl) rfl rfl (by first | (simp only [List.map_toArray, List.map_cons, List.map_nil, Act.eval, Array.getD_eq_getD_getElem?, Option.getD_some, e8]; done) | (simp only [List.map_toArray, List.map_cons, List.map_nil, Act.eval, Array.getD_eq_getD_getElem?, Option.getD_some, e8]; rfl)) ?_
      with_reducible refine (wire_four.calls k a0_2 t120 _ A3.out).mono ?_
      rintro e w9 ⟨v121, rfl, ho0, hb⟩
      refine ⟨_, rfl, ?_⟩
      have n0_ := Aside0.mk (Kd.R_elder' (by (with_reducible repeat (first | apply Kd.R_alloc | apply Kd.R_drewN | apply Kd.R_drew)); exact HO119.out) (Kd.R_base ho0) hb)
      have n1_ := Aside0.mk (Kd.R_lower (Kd.R_new' ho0 (Kd.R_lt (by (with_reducible repeat (first | apply Kd.R_alloc | apply Kd.R_drewN | apply Kd.R_drew)); exact HO119.out))) (below_size (by repeat (first | (with_reducible first | exact HB.out | apply below_alloc | apply pw_below_drewN | apply below_drew1 | refine below_set ?_ GE113.out) | exact HB.out))))
      have n2_ := Aside0.mk (blk_below (g := gb113) (o := .cells #[.int .i64 a0_0, .int .u32 a0_1, .int .u32 a0_2, .int .i64 a0_3, .int .i64 a0_4, .int .i64 a0_5, .slice A0_6 l0_6.length c0_6, .int .u64 a0_7, .slice A0_8 l0_8.length c0_8] 45 (0, 0)) (by (with_reducible repeat (first | refine blk_drewN ?_ _ | refine blk_drew ?_ | refine blk_alloc ?_ _)); exact BK113.out) hb)
      have n3_ := Aside0.mk (below_step (by repeat (first | (with_reducible first | exact HB.out | apply below_alloc | apply pw_below_drewN | apply below_drew1 | refine below_set ?_ GE113.out) | exact HB.out)) hb)
      have z_HO116 := fun (h0_ : b 0 = true) (h1_ : b 17 = false) => (show Kd.R (Kd.int .u8) 5 w9 w.heap.size (fun _ => True) v115 y114 from by first | exact (Kd.R_elder' (by (with_reducible repeat (first | apply Kd.R_alloc | apply Kd.R_drewN | apply Kd.R_drew)); exact (Q_HO116 h0_ h1_)) (Kd.R_base ho0) hb) | exact Kd.R_mono (Kd.R_elder' (by (with_reducible repeat (first | apply Kd.R_alloc | apply Kd.R_drewN | apply Kd.R_drew)); exact (Q_HO116 h0_ h1_)) (Kd.R_base ho0) hb) (fun _ h_ => by first | trivial | exact h_ | exact h_.1))
      have z_HO125 := fun (h0_ : b 16 = true) (h1_ : b 17 = false) => (show Kd.R (Kd.int .u8) 5 w9 w.heap.size (fun _ => True) v124 y123 from by first | exact (Kd.R_elder' (by (with_reducible repeat (first | apply Kd.R_alloc | apply Kd.R_drewN | apply Kd.R_drew)); exact (Q_HO125 h0_ h1_)) (Kd.R_base ho0) hb) | exact Kd.R_mono (Kd.R_elder' (by (with_reducible repeat (first | apply Kd.R_alloc | apply Kd.R_drewN | apply Kd.R_drew)); exact (Q_HO125 h0_ h1_)) (Kd.R_base ho0) hb) (fun _ h_ => by first | trivial | exact h_ | exact h_.1))
      clear HO119
      clear BK113
      clear HB
      have HO119 := n0_
      have HO122 := n1_
      have BK113 := n2_
      have HB := n3_
      clear n0_ n1_ n2_ n3_
      (try clear hb)
      (try clear hb2)
      (try clear hk)
      (try clear hi)
      (try clear ho0)
      refine hK.out _ _ ⟨v115, v118, v121, v124, v127, v130, m19_, (by rw [ha.out]; exact putSel_upk 4 hb_ rfl rfl rfl), (by (with_reducible repeat (first | refine blk_drewN ?_ _ | refine blk_drew ?_ | refine blk_alloc ?_ _)); exact BK113.out), (by repeat (first | (with_reducible first | exact HB.out | apply below_alloc | apply pw_below_drewN | apply below_drew1 | refine below_set ?_ GE113.out) | exact HB.out)), z_HO116, fun _ _ => (by (with_reducible repeat (first | apply Kd.R_alloc | apply Kd.R_drewN | apply Kd.R_drew)); exact Kd.R_mono HO119.out (fun _ _ => trivial)), fun _ _ => (by (with_reducible repeat (first | apply Kd.R_alloc | apply Kd.R_drewN | apply Kd.R_drew)); exact Kd.R_mono HO122.out (fun _ _ => trivial)), z_HO125, fun h0_ => absurd ((hoff 17 (by kernel_rfl)).symm.trans h0_) (by decide), fun h0_ => absurd ((hoff 18 (by kernel_rfl)).symm.trans h0_) (by decide), fun h0_ => absurd ((hoff 19 (by kernel_rfl)).symm.trans h0_) (by decide)⟩
    refine steps_cons ?_ ?_
    · rintro b a w' ⟨v115, v118, v121, v124, v127, v130, m19_, ha, Q_BK113, Q_HB, Q_HO116, Q_HO119, Q_HO122, Q_HO125, Q_HO128, Q_HO131, Q_X19_⟩ hb_ hon hoff
      refine ⟨_, rfl, fun K hK => ?_⟩
      have e10 : a.tmps[10]? = some (.pointer (some ⟨gb113, 3, none⟩)) := by rw [ha]; exact (putSel_off rfl).trans rfl
      replace ha := Aside0.mk ha
      have BK113 := Aside0.mk Q_BK113
      have HB := Aside0.mk Q_HB
      have hc0_ : w'.cell? ⟨gb113, 0, none⟩ = some (.int .i64 a0_0) := (blk_cell BK113.out 0).trans rfl
      have hc1_ : w'.cell? ⟨gb113, 1, none⟩ = some (.int .u32 a0_1) := (blk_cell BK113.out 1).trans rfl
      have hc2_ : w'.cell? ⟨gb113, 2, none⟩ = some (.int .u32 a0_2) := (blk_cell BK113.out 2).trans rfl
      have hc3_ : w'.cell? ⟨gb113, 3, none⟩ = some (.int .i64 a0_3) := (blk_cell BK113.out 3).trans rfl
      have hc4_ : w'.cell? ⟨gb113, 4, none⟩ = some (.int .i64 a0_4) := (blk_cell BK113.out 4).trans rfl
      have hc5_ : w'.cell? ⟨gb113, 5, none⟩ = some (.int .i64 a0_5) := (blk_cell BK113.out 5).trans rfl
      have hc6_ : w'.cell? ⟨gb113, 6, none⟩ = some (.slice A0_6 l0_6.length c0_6) := (blk_cell BK113.out 6).trans rfl
      have hc7_ : w'.cell? ⟨gb113, 7, none⟩ = some (.int .u64 a0_7) := (blk_cell BK113.out 7).trans rfl
      have hc8_ : w'.cell? ⟨gb113, 8, none⟩ = some (.slice A0_8 l0_8.length c0_8) := (blk_cell BK113.out 8).trans rfl
      refine value_ (w1 := w') (v := .int .i64 a0_3) (by rfl) rfl ?_ ?_
      · go_simp
        (try simp only [i64_w])
        try rfl
      refine hK.out _ _ ⟨v115, v118, v121, v124, v127, v130, m19_, (by rw [ha.out]; exact putSel_upk 5 hb_ rfl rfl rfl), Q_BK113, Q_HB, Q_HO116, Q_HO119, Q_HO122, fun h0_ _ => absurd ((hoff 16 (by kernel_rfl)).symm.trans h0_) (by decide), fun h0_ => absurd ((hoff 17 (by kernel_rfl)).symm.trans h0_) (by decide), fun h0_ => absurd ((hoff 18 (by kernel_rfl)).symm.trans h0_) (by decide), fun h0_ => absurd ((hoff 19 (by kernel_rfl)).symm.trans h0_) (by decide)⟩
    refine steps_cons ?_ ?_
    · rintro b a w' ⟨v115, v118, v121, v124, v127, v130, m19_, ha, Q_BK113, Q_HB, Q_HO116, Q_HO119, Q_HO122, Q_HO125, Q_HO128, Q_HO131, Q_X19_⟩ hb_ hon hoff
      refine ⟨_, rfl, fun K hK => ?_⟩
      have e11 : a.tmps[11]? = some (.int .i64 a0_3) := by rw [ha]; exact putSel_on (e := (8, 11, .int .i64 a0_3)) 5 rfl rfl (hon 8 (by kernel_rfl)) rfl
      replace ha := Aside0.mk ha
      have BK113 := Aside0.mk Q_BK113
      have HB := Aside0.mk Q_HB
      refine value_ (w1 := w') (v := .int .u8 ((a0_3) % 256)) (by rfl) rfl ?_ ?_
      · go_simp
        (try simp only [i64_w])
        try rfl
      refine hK.out _ _ ⟨v115, v118, v121, v124, v127, v130, m19_, (by rw [ha.out]; exact putSel_upk 6 hb_ rfl rfl rfl), Q_BK113, Q_HB, Q_HO116, Q_HO119, Q_HO122, fun h0_ _ => absurd ((hoff 16 (by kernel_rfl)).symm.trans h0_) (by decide), fun h0_ => absurd ((hoff 17 (by kernel_rfl)).symm.trans h0_) (by decide), fun h0_ => absurd ((hoff 18 (by kernel_rfl)).symm.trans h0_) (by decide), fun h0_ => absurd ((hoff 19 (by kernel_rfl)).symm.trans h0_) (by decide)⟩
    refine steps_cons ?_ ?_
    · rintro b a w' ⟨v115, v118, v121, v124, v127, v130, m19_, ha, Q_BK113, Q_HB, Q_HO116, Q_HO119, Q_HO122, Q_HO125, Q_HO128, Q_HO131, Q_X19_⟩ hb_ hon hoff
      refine ⟨_, rfl, fun K hK => ?_⟩
      have e13 : a.tmps[13]? = some (.pointer (some ⟨gb113, 4, none⟩)) := by rw [ha]; exact (putSel_off rfl).trans rfl
      replace ha := Aside0.mk ha
      have BK113 := Aside0.mk Q_BK113
      have HB := Aside0.mk Q_HB
      have hc0_ : w'.cell? ⟨gb113, 0, none⟩ = some (.int .i64 a0_0) := (blk_cell BK113.out 0).trans rfl
      have hc1_ : w'.cell? ⟨gb113, 1, none⟩ = some (.int .u32 a0_1) := (blk_cell BK113.out 1).trans rfl
      have hc2_ : w'.cell? ⟨gb113, 2, none⟩ = some (.int .u32 a0_2) := (blk_cell BK113.out 2).trans rfl
      have hc3_ : w'.cell? ⟨gb113, 3, none⟩ = some (.int .i64 a0_3) := (blk_cell BK113.out 3).trans rfl
      have hc4_ : w'.cell? ⟨gb113, 4, none⟩ = some (.int .i64 a0_4) := (blk_cell BK113.out 4).trans rfl
      have hc5_ : w'.cell? ⟨gb113, 5, none⟩ = some (.int .i64 a0_5) := (blk_cell BK113.out 5).trans rfl
      have hc6_ : w'.cell? ⟨gb113, 6, none⟩ = some (.slice A0_6 l0_6.length c0_6) := (blk_cell BK113.out 6).trans rfl
      have hc7_ : w'.cell? ⟨gb113, 7, none⟩ = some (.int .u64 a0_7) := (blk_cell BK113.out 7).trans rfl
      have hc8_ : w'.cell? ⟨gb113, 8, none⟩ = some (.slice A0_8 l0_8.length c0_8) := (blk_cell BK113.out 8).trans rfl
      refine value_ (w1 := w') (v := .int .i64 a0_4) (by rfl) rfl ?_ ?_
      · go_simp
        (try simp only [i64_w])
        try rfl
      refine hK.out _ _ ⟨v115, v118, v121, v124, v127, v130, m19_, (by rw [ha.out]; exact putSel_upk 7 hb_ rfl rfl rfl), Q_BK113, Q_HB, Q_HO116, Q_HO119, Q_HO122, fun h0_ _ => absurd ((hoff 16 (by kernel_rfl)).symm.trans h0_) (by decide), fun h0_ => absurd ((hoff 17 (by kernel_rfl)).symm.trans h0_) (by decide), fun h0_ => absurd ((hoff 18 (by kernel_rfl)).symm.trans h0_) (by decide), fun h0_ => absurd ((hoff 19 (by kernel_rfl)).symm.trans h0_) (by decide)⟩
    refine steps_cons ?_ ?_
    · rintro b a w' ⟨v115, v118, v121, v124, v127, v130, m19_, ha, Q_BK113, Q_HB, Q_HO116, Q_HO119, Q_HO122, Q_HO125, Q_HO128, Q_HO131, Q_X19_⟩ hb_ hon hoff
      refine ⟨_, rfl, fun K hK => ?_⟩
      have e14 : a.tmps[14]? = some (.int .i64 a0_4) := by rw [ha]; exact putSel_on (e := (11, 14, .int .i64 a0_4)) 7 rfl rfl (hon 11 (by kernel_rfl)) rfl
      replace ha := Aside0.mk ha
      have BK113 := Aside0.mk Q_BK113
      have HB := Aside0.mk Q_HB
      refine value_ (w1 := w') (v := .int .u8 ((a0_4) % 256)) (by rfl) rfl ?_ ?_
      · go_simp
        (try simp only [i64_w])
        try rfl
      refine hK.out _ _ ⟨v115, v118, v121, v124, v127, v130, m19_, (by rw [ha.out]; exact putSel_upk 8 hb_ rfl rfl rfl), Q_BK113, Q_HB, Q_HO116, Q_HO119, Q_HO122, fun h0_ _ => absurd ((hoff 16 (by kernel_rfl)).symm.trans h0_) (by decide), fun h0_ => absurd ((hoff 17 (by kernel_rfl)).symm.trans h0_) (by decide), fun h0_ => absurd ((hoff 18 (by kernel_rfl)).symm.trans h0_) (by decide), fun h0_ => absurd ((hoff 19 (by kernel_rfl)).symm.trans h0_) (by decide)⟩
    refine steps_cons ?_ ?_
    · rintro b a w' ⟨v115, v118, v121, v124, v127, v130, m19_, ha, Q_BK113, Q_HB, Q_HO116, Q_HO119, Q_HO122, Q_HO125, Q_HO128, Q_HO131, Q_X19_⟩ hb_ hon hoff
      refine ⟨_, rfl, fun K hK => ?_⟩
      have e16 : a.tmps[16]? = some (.pointer (some ⟨gb113, 5, none⟩)) := by rw [ha]; exact (putSel_off rfl).trans rfl
      replace ha := Aside0.mk ha
      have BK113 := Aside0.mk Q_BK113
      have HB := Aside0.mk Q_HB
      have hc0_ : w'.cell? ⟨gb113, 0, none⟩ = some (.int .i64 a0_0) := (blk_cell BK113.out 0).trans rfl
      have hc1_ : w'.cell? ⟨gb113, 1, none⟩ = some (.int .u32 a0_1) := (blk_cell BK113.out 1).trans rfl
      have hc2_ : w'.cell? ⟨gb113, 2, none⟩ = some (.int .u32 a0_2) := (blk_cell BK113.out 2).trans rfl
      have hc3_ : w'.cell? ⟨gb113, 3, none⟩ = some (.int .i64 a0_3) := (blk_cell BK113.out 3).trans rfl
      have hc4_ : w'.cell? ⟨gb113, 4, none⟩ = some (.int .i64 a0_4) := (blk_cell BK113.out 4).trans rfl
      have hc5_ : w'.cell? ⟨gb113, 5, none⟩ = some (.int .i64 a0_5) := (blk_cell BK113.out 5).trans rfl
      have hc6_ : w'.cell? ⟨gb113, 6, none⟩ = some (.slice A0_6 l0_6.length c0_6) := (blk_cell BK113.out 6).trans rfl
      have hc7_ : w'.cell? ⟨gb113, 7, none⟩ = some (.int .u64 a0_7) := (blk_cell BK113.out 7).trans rfl
      have hc8_ : w'.cell? ⟨gb113, 8, none⟩ = some (.slice A0_8 l0_8.length c0_8) := (blk_cell BK113.out 8).trans rfl
      refine value_ (w1 := w') (v := .int .i64 a0_5) (by rfl) rfl ?_ ?_
      · go_simp
        (try simp only [i64_w])
        try rfl
      refine hK.out _ _ ⟨v115, v118, v121, v124, v127, v130, m19_, (by rw [ha.out]; exact putSel_upk 9 hb_ rfl rfl rfl), Q_BK113, Q_HB, Q_HO116, Q_HO119, Q_HO122, fun h0_ _ => absurd ((hoff 16 (by kernel_rfl)).symm.trans h0_) (by decide), fun h0_ => absurd ((hoff 17 (by kernel_rfl)).symm.trans h0_) (by decide), fun h0_ => absurd ((hoff 18 (by kernel_rfl)).symm.trans h0_) (by decide), fun h0_ => absurd ((hoff 19 (by kernel_rfl)).symm.trans h0_) (by decide)⟩
    refine steps_cons ?_ ?_
    · rintro b a w' ⟨v115, v118, v121, v124, v127, v130, m19_, ha, Q_BK113, Q_HB, Q_HO116, Q_HO119, Q_HO122, Q_HO125, Q_HO128, Q_HO131, Q_X19_⟩ hb_ hon hoff
      refine ⟨_, rfl, fun K hK => ?_⟩
      have e17 : a.tmps[17]? = some (.int .i64 a0_5) := by rw [ha]; exact putSel_on (e := (14, 17, .int .i64 a0_5)) 9 rfl rfl (hon 14 (by kernel_rfl)) rfl
      replace ha := Aside0.mk ha
      have BK113 := Aside0.mk Q_BK113
      have HB := Aside0.mk Q_HB
      refine value_ (w1 := w') (v := .int .u8 ((a0_5) % 256)) (by rfl) rfl ?_ ?_
      · go_simp
        (try simp only [i64_w])
        try rfl
      refine hK.out _ _ ⟨v115, v118, v121, v124, v127, v130, m19_, (by rw [ha.out]; exact putSel_upk 10 hb_ rfl rfl rfl), Q_BK113, Q_HB, Q_HO116, Q_HO119, Q_HO122, fun h0_ _ => absurd ((hoff 16 (by kernel_rfl)).symm.trans h0_) (by decide), fun h0_ => absurd ((hoff 17 (by kernel_rfl)).symm.trans h0_) (by decide), fun h0_ => absurd ((hoff 18 (by kernel_rfl)).symm.trans h0_) (by decide), fun h0_ => absurd ((hoff 19 (by kernel_rfl)).symm.trans h0_) (by decide)⟩
    refine steps_cons ?_ ?_
    · rintro b a w' ⟨v115, v118, v121, v124, v127, v130, m19_, ha, Q_BK113, Q_HB, Q_HO116, Q_HO119, Q_HO122, Q_HO125, Q_HO128, Q_HO131, Q_X19_⟩ hb_ hon hoff
      refine ⟨_, rfl, fun K hK => ?_⟩
      have e12 : a.tmps[12]? = some (.int .u8 ((a0_3) % 256)) := by rw [ha]; exact putSel_on (e := (9, 12, .int .u8 ((a0_3) % 256))) 6 rfl rfl (hon 9 (by kernel_rfl)) rfl
      have e15 : a.tmps[15]? = some (.int .u8 ((a0_4) % 256)) := by rw [ha]; exact putSel_on (e := (12, 15, .int .u8 ((a0_4) % 256))) 8 rfl rfl (hon 12 (by kernel_rfl)) rfl
      have e18 : a.tmps[18]? = some (.int .u8 ((a0_5) % 256)) := by rw [ha]; exact putSel_on (e := (15, 18, .int .u8 ((a0_5) % 256))) 10 rfl rfl (hon 15 (by kernel_rfl)) rfl
      replace ha := Aside0.mk ha
      have BK113 := Aside0.mk Q_BK113
      have HB := Aside0.mk Q_HB
      refine Kd.R_lit_step (Kd.int .u8) _ 5 ?hg (N := 19) ?hd (xs := ([(a0_3) % 256, (a0_4) % 256, (a0_5) % 256] : List Int)) (inner := [.int .u8 ((a0_3) % 256), .int .u8 ((a0_4) % 256), .int .u8 ((a0_5) % 256)]) (ok := fun _ => True) (okp := fun _ => True) ?hr ?hp (fun _ hk => hk) trivial (Below.refl _ _) (Nat.le_refl _) (by simp) ?_; (case hd => rfl); (case hg => rfl); (case hr => first | (go_simp; done) | (go_simp; rfl)); (case hp => exact (Reps.one (show Kd.M (Kd.int .u8) _ _ _ ((a0_3) % 256) [.int .u8 ((a0_3) % 256)] from rfl) (Reps.one (show Kd.M (Kd.int .u8) _ _ _ ((a0_4) % 256) [.int .u8 ((a0_4) % 256)] from rfl) (Reps.one (show Kd.M (Kd.int .u8) _ _ _ ((a0_5) % 256) [.int .u8 ((a0_5) % 256)] from rfl) (Reps.none _ _)))))
      intro v124 w7 ho8 hb hg_ hnew_
      clear hg_ hnew_
      (first | rw [← Ny123.out] at ho8 | (simp only [Int.reduceToNat] at ho8; rw [← Ny123.out] at ho8))
      have n0_ := Aside0.mk (Kd.R_lower ho8 (below_size (by repeat (first | (with_reducible first | exact HB.out | apply below_alloc | apply pw_below_drewN | apply below_drew1 | refine below_set ?_ GE113.out) | exact HB.out))))
      have n1_ := Aside0.mk (blk_below (g := gb113) (o := .cells #[.int .i64 a0_0, .int .u32 a0_1, .int .u32 a0_2, .int .i64 a0_3, .int .i64 a0_4, .int .i64 a0_5, .slice A0_6 l0_6.length c0_6, .int .u64 a0_7, .slice A0_8 l0_8.length c0_8] 45 (0, 0)) (by (with_reducible repeat (first | refine blk_drewN ?_ _ | refine blk_drew ?_ | refine blk_alloc ?_ _)); exact BK113.out) hb)
      have n2_ := Aside0.mk (below_step (by repeat (first | (with_reducible first | exact HB.out | apply below_alloc | apply pw_below_drewN | apply below_drew1 | refine below_set ?_ GE113.out) | exact HB.out)) hb)
      have z_HO116 := fun (h0_ : b 0 = true) (h1_ : b 17 = false) => (show Kd.R (Kd.int .u8) 5 w7 w.heap.size (fun _ => True) v115 y114 from by first | exact (Kd.R_elder' (by (with_reducible repeat (first | apply Kd.R_alloc | apply Kd.R_drewN | apply Kd.R_drew)); exact (Q_HO116 h0_ h1_)) (Kd.R_base ho8) hb) | exact Kd.R_mono (Kd.R_elder' (by (with_reducible repeat (first | apply Kd.R_alloc | apply Kd.R_drewN | apply Kd.R_drew)); exact (Q_HO116 h0_ h1_)) (Kd.R_base ho8) hb) (fun _ h_ => by first | trivial | exact h_ | exact h_.1))
      have z_HO119 := fun (h0_ : b 3 = true) (h1_ : b 17 = false) => (show Kd.R (Kd.int .u8) 5 w7 w.heap.size (fun _ => True) v118 t117 from by first | exact (Kd.R_elder' (by (with_reducible repeat (first | apply Kd.R_alloc | apply Kd.R_drewN | apply Kd.R_drew)); exact (Q_HO119 h0_ h1_)) (Kd.R_base ho8) hb) | exact Kd.R_mono (Kd.R_elder' (by (with_reducible repeat (first | apply Kd.R_alloc | apply Kd.R_drewN | apply Kd.R_drew)); exact (Q_HO119 h0_ h1_)) (Kd.R_base ho8) hb) (fun _ h_ => by first | trivial | exact h_ | exact h_.1))
      have z_HO122 := fun (h0_ : b 6 = true) (h1_ : b 17 = false) => (show Kd.R (Kd.int .u8) 5 w7 w.heap.size (fun _ => True) v121 t120 from by first | exact (Kd.R_elder' (by (with_reducible repeat (first | apply Kd.R_alloc | apply Kd.R_drewN | apply Kd.R_drew)); exact (Q_HO122 h0_ h1_)) (Kd.R_base ho8) hb) | exact Kd.R_mono (Kd.R_elder' (by (with_reducible repeat (first | apply Kd.R_alloc | apply Kd.R_drewN | apply Kd.R_drew)); exact (Q_HO122 h0_ h1_)) (Kd.R_base ho8) hb) (fun _ h_ => by first | trivial | exact h_ | exact h_.1))
      clear BK113
      clear HB
      have HO125 := n0_
      have BK113 := n1_
      have HB := n2_
      clear n0_ n1_ n2_
      clear hb ho8
      refine hK.out _ _ ⟨v115, v118, v121, v124, v127, v130, m19_, (by rw [ha.out]; exact putSel_upk 11 hb_ rfl rfl rfl), (by (with_reducible repeat (first | refine blk_drewN ?_ _ | refine blk_drew ?_ | refine blk_alloc ?_ _)); exact BK113.out), (by repeat (first | (with_reducible first | exact HB.out | apply below_alloc | apply pw_below_drewN | apply below_drew1 | refine below_set ?_ GE113.out) | exact HB.out)), z_HO116, z_HO119, z_HO122, fun _ _ => (by (with_reducible repeat (first | apply Kd.R_alloc | apply Kd.R_drewN | apply Kd.R_drew)); exact HO125.out), fun h0_ => absurd ((hoff 17 (by kernel_rfl)).symm.trans h0_) (by decide), fun h0_ => absurd ((hoff 18 (by kernel_rfl)).symm.trans h0_) (by decide), fun h0_ => absurd ((hoff 19 (by kernel_rfl)).symm.trans h0_) (by decide)⟩
    refine steps_cons ?_ ?_
    · rintro b a w' ⟨v115, v118, v121, v124, v127, v130, m19_, ha, Q_BK113, Q_HB, Q_HO116, Q_HO119, Q_HO122, Q_HO125, Q_HO128, Q_HO131, Q_X19_⟩ hb_ hon hoff
      refine ⟨_, rfl, fun K hK => ?_⟩
      have e3 : a.tmps[3]? = some (v115) := by rw [ha]; exact putSel_on (e := (0, 3, v115)) 0 rfl rfl (hon 0 (by kernel_rfl)) rfl
      have e6 : a.tmps[6]? = some (v118) := by rw [ha]; exact putSel_on (e := (3, 6, v118)) 2 rfl rfl (hon 3 (by kernel_rfl)) rfl
      have e9 : a.tmps[9]? = some (v121) := by rw [ha]; exact putSel_on (e := (6, 9, v121)) 4 rfl rfl (hon 6 (by kernel_rfl)) rfl
      have e19 : a.tmps[19]? = some (v124) := by rw [ha]; exact putSel_on (e := (16, 19, v124)) 11 rfl rfl (hon 16 (by kernel_rfl)) rfl
      replace ha := Aside0.mk ha
      have BK113 := Aside0.mk Q_BK113
      have HB := Aside0.mk Q_HB
      have HO116 := Aside0.mk (Q_HO116 (hon 0 (by kernel_rfl)) hb_)
      have HO119 := Aside0.mk (Q_HO119 (hon 3 (by kernel_rfl)) hb_)
      have HO122 := Aside0.mk (Q_HO122 (hon 6 (by kernel_rfl)) hb_)
      have HO125 := Aside0.mk (Q_HO125 (hon 16 (by kernel_rfl)) hb_)
      obtain ⟨Ao14, co14, eo14⟩ := Kd.R_slice HO116.out
      (first | subst eo14 | (injection eo14 with f1_ f2_ f3_; have f4_ := f1_.symm; have f5_ := f3_.symm; clear f1_ f2_ f3_; subst f4_; subst f5_))
      obtain ⟨Ao15, co15, eo15⟩ := Kd.R_slice HO119.out
      (first | subst eo15 | (injection eo15 with f1_ f2_ f3_; have f4_ := f1_.symm; have f5_ := f3_.symm; clear f1_ f2_ f3_; subst f4_; subst f5_))
      obtain ⟨Ao16, co16, eo16⟩ := Kd.R_slice HO122.out
      (first | subst eo16 | (injection eo16 with f1_ f2_ f3_; have f4_ := f1_.symm; have f5_ := f3_.symm; clear f1_ f2_ f3_; subst f4_; subst f5_))
      obtain ⟨Ao17, co17, eo17⟩ := Kd.R_slice HO125.out
      (first | subst eo17 | (injection eo17 with f1_ f2_ f3_; have f4_ := f1_.symm; have f5_ := f3_.symm; clear f1_ f2_ f3_; subst f4_; subst f5_))
      refine Kd.N_lit_step (Kd.slice 5 (Kd.int .u8)) _ 37 ?hg (N' := 20) ?hd (xs := ([y114, t117, t120, y123] : List (List Int))) (inner := [.slice Ao14 y114.length co14, .slice Ao15 t117.length co15, .slice Ao16 t120.length co16, .slice Ao17 y123.length co17]) (ok := (fun k_ => k_ ≠ gb113)) (okp := (fun k_ => k_ ≠ gb113)) ?hr ?hp (fun _ hk => hk) ((show ∀ k_, w'.heap.size ≤ k_ → (fun k_ => k_ ≠ gb113) k_ from fun k_ hk => Kd.freshB (g := gb113) (o := .cells #[.int .i64 a0_0, .int .u32 a0_1, .int .u32 a0_2, .int .i64 a0_3, .int .i64 a0_4, .int .i64 a0_5, .slice A0_6 l0_6.length c0_6, .int .u64 a0_7, .slice A0_8 l0_8.length c0_8] 45 (0, 0)) (by (with_reducible repeat (first | refine blk_drewN ?_ _ | refine blk_drew ?_ | refine blk_alloc ?_ _)); exact BK113.out) k_ hk) _ (Nat.le_refl _)) (Below.refl _ _) (Nat.le_refl _) (by simp) ?_; (case hd => rfl); (case hg => rfl); (case hr => first | (go_simp; done) | (go_simp; rfl)); (case hp => exact (Reps.one (show Kd.FK (Kd.slice 5 (Kd.int .u8)) _ _ y114 [.slice Ao14 y114.length co14] from (Kd.FK_slice_mk (Kd.R_reads' (Kd.R_mono (ok' := (fun k_ => k_ ≠ gb113)) (Kd.R_types (HO116.out) BK113.out (by decide)) (fun k_ hk => hk.2))).2.1 (Kd.R_F (Kd.R_mono (ok' := (fun k_ => k_ ≠ gb113)) (Kd.R_types (HO116.out) BK113.out (by decide)) (fun k_ hk => hk.2))))) (Reps.one (show Kd.FK (Kd.slice 5 (Kd.int .u8)) _ _ t117 [.slice Ao15 t117.length co15] from (Kd.FK_slice_mk (Kd.R_reads' (Kd.R_mono (ok' := (fun k_ => k_ ≠ gb113)) (Kd.R_types (HO119.out) BK113.out (by decide)) (fun k_ hk => hk.2))).2.1 (Kd.R_F (Kd.R_mono (ok' := (fun k_ => k_ ≠ gb113)) (Kd.R_types (HO119.out) BK113.out (by decide)) (fun k_ hk => hk.2))))) (Reps.one (show Kd.FK (Kd.slice 5 (Kd.int .u8)) _ _ t120 [.slice Ao16 t120.length co16] from (Kd.FK_slice_mk (Kd.R_reads' (Kd.R_mono (ok' := (fun k_ => k_ ≠ gb113)) (Kd.R_types (HO122.out) BK113.out (by decide)) (fun k_ hk => hk.2))).2.1 (Kd.R_F (Kd.R_mono (ok' := (fun k_ => k_ ≠ gb113)) (Kd.R_types (HO122.out) BK113.out (by decide)) (fun k_ hk => hk.2))))) (Reps.one (show Kd.FK (Kd.slice 5 (Kd.int .u8)) _ _ y123 [.slice Ao17 y123.length co17] from (Kd.FK_slice_mk (Kd.R_reads' (Kd.R_mono (ok' := (fun k_ => k_ ≠ gb113)) (Kd.R_types (HO125.out) BK113.out (by decide)) (fun k_ hk => hk.2))).2.1 (Kd.R_F (Kd.R_mono (ok' := (fun k_ => k_ ≠ gb113)) (Kd.R_types (HO125.out) BK113.out (by decide)) (fun k_ hk => hk.2))))) (Reps.none _ _))))))
      intro v127 w18 ho19 hb hg_ hnew_
      clear hg_ hnew_
      (first | rw [← Ny126.out] at ho19 | (simp only [Int.reduceToNat] at ho19; rw [← Ny126.out] at ho19))
      have n0_ := Aside0.mk (Kd.N_lower ho19 (below_size (by repeat (first | (with_reducible first | exact HB.out | apply below_alloc | apply pw_below_drewN | apply below_drew1 | refine below_set ?_ GE113.out) | exact HB.out))))
      have n1_ := Aside0.mk (blk_below (g := gb113) (o := .cells #[.int .i64 a0_0, .int .u32 a0_1, .int .u32 a0_2, .int .i64 a0_3, .int .i64 a0_4, .int .i64 a0_5, .slice A0_6 l0_6.length c0_6, .int .u64 a0_7, .slice A0_8 l0_8.length c0_8] 45 (0, 0)) (by (with_reducible repeat (first | refine blk_drewN ?_ _ | refine blk_drew ?_ | refine blk_alloc ?_ _)); exact BK113.out) hb)
      have n2_ := Aside0.mk (below_step (by repeat (first | (with_reducible first | exact HB.out | apply below_alloc | apply pw_below_drewN | apply below_drew1 | refine below_set ?_ GE113.out) | exact HB.out)) hb)
      clear BK113
      clear HB
      clear HO116
      clear HO119
      clear HO122
      clear HO125
      have HO128 := n0_
      have BK113 := n1_
      have HB := n2_
      clear n0_ n1_ n2_
      clear hb ho19
      refine hK.out _ _ ⟨.slice Ao14 y114.length co14, .slice Ao15 t117.length co15, .slice Ao16 t120.length co16, .slice Ao17 y123.length co17, v127, v130, m19_, (by rw [ha.out]; exact putSel_upk 12 hb_ rfl rfl rfl), (by (with_reducible repeat (first | refine blk_drewN ?_ _ | refine blk_drew ?_ | refine blk_alloc ?_ _)); exact BK113.out), (by repeat (first | (with_reducible first | exact HB.out | apply below_alloc | apply pw_below_drewN | apply below_drew1 | refine below_set ?_ GE113.out) | exact HB.out)), fun _ h1_ => absurd ((up_self b 17).symm.trans h1_) (by decide), fun _ h1_ => absurd ((up_self b 17).symm.trans h1_) (by decide), fun _ h1_ => absurd ((up_self b 17).symm.trans h1_) (by decide), fun _ h1_ => absurd ((up_self b 17).symm.trans h1_) (by decide), fun _ => (by (with_reducible repeat (first | apply Kd.N_alloc | apply Kd.N_drewN | apply Kd.N_drew)); exact HO128.out), fun h0_ => absurd ((hoff 18 (by kernel_rfl)).symm.trans h0_) (by decide), fun h0_ => absurd ((hoff 19 (by kernel_rfl)).symm.trans h0_) (by decide)⟩
    refine steps_cons ?_ ?_
    · rintro b a w' ⟨v115, v118, v121, v124, v127, v130, m19_, ha, Q_BK113, Q_HB, Q_HO116, Q_HO119, Q_HO122, Q_HO125, Q_HO128, Q_HO131, Q_X19_⟩ hb_ hon hoff
      refine ⟨_, rfl, fun K hK => ?_⟩
      have e20 : a.tmps[20]? = some (v127) := by rw [ha]; exact putSel_on (e := (17, 20, v127)) 12 rfl rfl (hon 17 (by kernel_rfl)) rfl
      replace ha := Aside0.mk ha
      have BK113 := Aside0.mk Q_BK113
      have HB := Aside0.mk Q_HB
      have HO128 := Aside0.mk (Q_HO128 (hon 17 (by kernel_rfl)))
      obtain ⟨Ao20, co20, eo20⟩ := Kd.N_slice HO128.out
      (first | subst eo20 | (injection eo20 with f1_ f2_ f3_; have f4_ := f1_.symm; have f5_ := f3_.symm; clear f1_ f2_ f3_; subst f4_; subst f5_))
      refine goes_ Try.func31 (by kernel_rfl) rfl #[.slice Ao20 y126.length co20] (by rfl) rfl rfl (by first | (simp only [List.map_toArray, List.map_cons, List.map_nil, Act.eval, Array.getD_eq_getD_getElem?, Option.getD_some, e20]; done) | (simp only [List.map_toArray, List.map_cons, List.map_nil, Act.eval, Array.getD_eq_getD_getElem?, Option.getD_some, e20]; rfl)) ?_
      with_reducible refine (words_Join.calls k _ _ y126 t129 _ ?side1 ?side2 A4.out).mono ?_
      (case side1 => repeat (first | exact (Kd.N_reads' HO128.out).2.2 | (with_reducible refine Kd.C_alloc ?_ _) | (with_reducible refine Kd.C_drewN ?_ _) | (with_reducible refine Kd.C_drew ?_)))
      (case side2 => exact (Kd.N_reads' HO128.out).2.1)
      rintro e w21 ⟨v130, rfl, ho0, hb⟩
      refine ⟨_, rfl, ?_⟩
      have n0_ := Aside0.mk (Kd.N_elder' (by (with_reducible repeat (first | apply Kd.N_alloc | apply Kd.N_drewN | apply Kd.N_drew)); exact HO128.out) (Kd.R_base ho0) hb)
      have n1_ := Aside0.mk (Kd.R_lower ho0 (below_size (by repeat (first | (with_reducible first | exact HB.out | apply below_alloc | apply pw_below_drewN | apply below_drew1 | refine below_set ?_ GE113.out) | exact HB.out))))
      have n2_ := Aside0.mk (blk_below (g := gb113) (o := .cells #[.int .i64 a0_0, .int .u32 a0_1, .int .u32 a0_2, .int .i64 a0_3, .int .i64 a0_4, .int .i64 a0_5, .slice A0_6 l0_6.length c0_6, .int .u64 a0_7, .slice A0_8 l0_8.length c0_8] 45 (0, 0)) (by (with_reducible repeat (first | refine blk_drewN ?_ _ | refine blk_drew ?_ | refine blk_alloc ?_ _)); exact BK113.out) hb)
      have n3_ := Aside0.mk (below_step (by repeat (first | (with_reducible first | exact HB.out | apply below_alloc | apply pw_below_drewN | apply below_drew1 | refine below_set ?_ GE113.out) | exact HB.out)) hb)
      clear HO128
      clear BK113
      clear HB
      have HO128 := n0_
      have HO131 := n1_
      have BK113 := n2_
      have HB := n3_
      clear n0_ n1_ n2_ n3_
      (try clear hb)
      (try clear hb2)
      (try clear hk)
      (try clear hi)
      (try clear ho0)
      refine hK.out _ _ ⟨v115, v118, v121, v124, .slice Ao20 y126.length co20, v130, m19_, (by rw [ha.out]; exact putSel_upk 13 hb_ rfl rfl rfl), (by (with_reducible repeat (first | refine blk_drewN ?_ _ | refine blk_drew ?_ | refine blk_alloc ?_ _)); exact BK113.out), (by repeat (first | (with_reducible first | exact HB.out | apply below_alloc | apply pw_below_drewN | apply below_drew1 | refine below_set ?_ GE113.out) | exact HB.out)), fun _ h1_ => absurd ((hon 17 (by kernel_rfl)).symm.trans h1_) (by decide), fun _ h1_ => absurd ((hon 17 (by kernel_rfl)).symm.trans h1_) (by decide), fun _ h1_ => absurd ((hon 17 (by kernel_rfl)).symm.trans h1_) (by decide), fun _ h1_ => absurd ((hon 17 (by kernel_rfl)).symm.trans h1_) (by decide), fun _ => (by (with_reducible repeat (first | apply Kd.N_alloc | apply Kd.N_drewN | apply Kd.N_drew)); exact Kd.N_mono HO128.out (fun _ hk => (by first | exact hk.1 | exact hk.2 | exact hk))), fun _ => (by (with_reducible repeat (first | apply Kd.R_alloc | apply Kd.R_drewN | apply Kd.R_drew)); exact HO131.out), fun h0_ => absurd ((hoff 19 (by kernel_rfl)).symm.trans h0_) (by decide)⟩
    refine steps_cons ?_ ?_
    · rintro b a w' ⟨v115, v118, v121, v124, v127, v130, m19_, ha, Q_BK113, Q_HB, Q_HO116, Q_HO119, Q_HO122, Q_HO125, Q_HO128, Q_HO131, Q_X19_⟩ hb_ hon hoff
      refine ⟨_, rfl, fun K hK => ?_⟩
      have e21 : a.tmps[21]? = some (v130) := by rw [ha]; exact putSel_on (e := (18, 21, v130)) 13 rfl rfl (hon 18 (by kernel_rfl)) rfl
      replace ha := Aside0.mk ha
      have BK113 := Aside0.mk Q_BK113
      have HB := Aside0.mk Q_HB
      have HO128 := Aside0.mk (Q_HO128 (hon 17 (by kernel_rfl)))
      have HO131 := Aside0.mk (Q_HO131 (hon 18 (by kernel_rfl)))
      refine value_ (w1 := w') (v := v130) (by rfl) rfl ?_ ?_
      · go_simp
        (try simp only [i64_w])
        try rfl
      refine hK.out _ _ ⟨v115, v118, v121, v124, v127, v130, (v130), (by rw [ha.out]; exact putSel_upk 14 hb_ rfl rfl rfl), Q_BK113, Q_HB, fun _ h1_ => absurd ((hon 17 (by kernel_rfl)).symm.trans h1_) (by decide), fun _ h1_ => absurd ((hon 17 (by kernel_rfl)).symm.trans h1_) (by decide), fun _ h1_ => absurd ((hon 17 (by kernel_rfl)).symm.trans h1_) (by decide), fun _ h1_ => absurd ((hon 17 (by kernel_rfl)).symm.trans h1_) (by decide), Q_HO128, Q_HO131, fun _ => rfl⟩
    exact steps_nil
  rintro b a w21 hall ⟨v115, v118, v121, v124, v127, v130, m19_, ha, Q_BK113, Q_HB, Q_HO116, Q_HO119, Q_HO122, Q_HO125, Q_HO128, Q_HO131, Q_X19_⟩
  clear BK113 HB
  have hb0_ := hall 0 (by kernel_rfl)
  have hb2_ := hall 2 (by kernel_rfl)
  have hb3_ := hall 3 (by kernel_rfl)
  have hb5_ := hall 5 (by kernel_rfl)
  have hb6_ := hall 6 (by kernel_rfl)
  have hb8_ := hall 8 (by kernel_rfl)
  have hb9_ := hall 9 (by kernel_rfl)
  have hb11_ := hall 11 (by kernel_rfl)
  have hb12_ := hall 12 (by kernel_rfl)
  have hb14_ := hall 14 (by kernel_rfl)
  have hb15_ := hall 15 (by kernel_rfl)
  have hb16_ := hall 16 (by kernel_rfl)
  have hb17_ := hall 17 (by kernel_rfl)
  have hb18_ := hall 18 (by kernel_rfl)
  have hb19_ := hall 19 (by kernel_rfl)
  subst ha
  obtain rfl := Q_X19_ hb19_
  simp only [putSel, hb0_, hb2_, hb3_, hb5_, hb6_, hb8_, hb9_, hb11_, hb12_, hb14_, hb15_, hb16_, hb17_, hb18_, hb19_, if_true, Act.put, List.setIfInBounds_toArray, List.set_cons_zero, List.set_cons_succ]
  have BK113 := Aside0.mk Q_BK113
  clear Q_BK113
  have HB := Aside0.mk Q_HB
  clear Q_HB
  clear Q_HO116
  clear Q_HO119
  clear Q_HO122
  clear Q_HO125
  have HO128 := Aside0.mk (Q_HO128 hb17_)
  clear Q_HO128
  have HO131 := Aside0.mk (Q_HO131 hb18_)
  clear Q_HO131
  clear hall hb0_ hb2_ hb3_ hb5_ hb6_ hb8_ hb9_ hb11_ hb12_ hb14_ hb15_ hb16_ hb17_ hb18_ hb19_
  try go_wp2
  go_ret
  exact ⟨_, by first | rfl | (simp [errW_none, errW_some] <;> rfl) | (simp [*, errW_none, errW_some] <;> rfl), by (with_reducible repeat (first | apply Kd.R_alloc | apply Kd.R_drewN | apply Kd.R_drew)); exact HO131.out, by repeat (first | (with_reducible first | exact HB.out | apply below_alloc | apply pw_below_drewN | apply below_drew1 | refine below_set ?_ GE113.out) | exact HB.out)⟩

end Go.Proofs.Ytkcjgkfgjbhfnaa.Wr
