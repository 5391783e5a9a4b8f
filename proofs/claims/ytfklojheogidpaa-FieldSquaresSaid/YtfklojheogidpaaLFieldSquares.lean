import Derived.Test.YtfklojheogidpaaKit3
set_option linter.unusedVariables false
set_option linter.unusedSimpArgs false
namespace Go.Proofs.Ytfklojheogidpaa
open Go.RowKit Go.Proofs.YtfklojheogidpaaW.PrintWords Go.Proofs.YtfklojheogidpaaW.PrintLast Go.Proofs.YtfklojheogidpaaW.PrintMore

theorem LS.newBelow {W0 : World} {fs : List (Nat × List Int × TypeId)} {w : World} (h : LS W0 fs w) : Below w.heap.size w (w.alloc (.cells (Ls [0, 0, 0, 0]) 27)) := below_alloc (Below.refl _ _) _

set_option maxHeartbeats 4000000 in
set_option maxRecDepth 100000 in
theorem walk_FieldSquares (w : World) (l0 : List Int) (l1 : List Int)
    (hl0 : l0.length = 4) (hw0 : ∀ x ∈ l0, 0 ≤ x ∧ x ≤ 18446744073709551615) (hl1 : l1.length = 4) (hw1 : ∀ x ∈ l1, 0 ≤ x ∧ x ≤ 18446744073709551615) :
    Calls Try.prog 11 #[.agg (nums .u64 l0).toArray, .agg (nums .u64 l1).toArray] w fun e w' => e = .returned (.bool true) ∧ Below w.heap.size w w' := by
  obtain ⟨v0, r0, e0⟩ := arr_E l0 hl0 hw0
  have N0 := Lib.hid (N.of r0)
  rw [e0]
  clear e0 r0 hl0 hw0
  obtain ⟨v1, r1, e1⟩ := arr_E l1 hl1 hw1
  have N1 := Lib.hid (N.of r1)
  rw [e1]
  clear e1 r1 hl1 hw1
  go_enter Try.func11, Try.ntmps11
  go_upto_region 0 with fail
  go_cut [2, 3, 4] (fun s2 s3 s4 wx => s2 = .pointer (some ⟨w.heap.size, 0, none⟩) ∧ s3 = .pointer (some ⟨w.heap.size + 1, 0, none⟩) ∧ s4 = .bool false ∧ LS w [(w.heap.size, lim v0, 24), (w.heap.size + 1, lim v1, 24)] wx)
  case first =>
    go_wp2_with fail
    go_meet
    exact ⟨rfl, rfl, rfl, LS.two _ _⟩
  case rest =>
    obtain ⟨rfl, rfl, rfl, hS⟩ := hcut
    have H0 := Lib.hid hS
    have HW := Lib.hid hS.below
    clear hS
    go_wp2_with fail
    refine (awake_any _).mono ?_
    rintro e w1 ⟨rfl, b⟩
    have H1 := Lib.hid (H0.out.call b)
    clear b H0
    go_upto_region 4 with fail
    go_upto_region 5 with (first | (refine load24w (by rfl) _ rfl (w.heap.size) (lim v0) rfl (H1.out.get _ _ _ (by simp)) rfl ?_) | (refine load24w (by rfl) _ rfl (w.heap.size + 1) (lim v1) rfl (H1.out.get _ _ _ (by simp)) rfl ?_))
    refine (cNum N0.out _).mono ?_
    rintro e w2 ⟨A3, c4, rfl, s5, b⟩
    have S6 := Lib.hid s5
    clear s5
    have H7 := Lib.hid (H1.out.call b)
    clear b H1
    go_upto_region 5 with (first | (refine load24w (by rfl) _ rfl (w.heap.size) (lim v0) rfl (H7.out.get _ _ _ (by simp)) rfl ?_) | (refine load24w (by rfl) _ rfl (w.heap.size + 1) (lim v1) rfl (H7.out.get _ _ _ (by simp)) rfl ?_))
    go_cut [7] (fun s7 wx => ∃ b7 : Nat, s7 = .pointer (some ⟨b7, 0, none⟩) ∧ Sl wx A3 c4 v0 ∧ LS w ((b7, lim (mulV (addV v0 v1) (addV v0 v1)), 27) :: [(w.heap.size, lim v0, 24), (w.heap.size + 1, lim v1, 24)]) wx)
    case first =>
      go_wp2_with (first | (refine load24w (by rfl) _ rfl (w.heap.size) (lim v0) rfl (H7.out.get _ _ _ (by simp)) rfl ?_) | (refine load24w (by rfl) _ rfl (w.heap.size + 1) (lim v1) rfl (H7.out.get _ _ _ (by simp)) rfl ?_))
      refine (cAdd N0.out N1.out _).mono ?_
      rintro e w8 ⟨rfl, b⟩
      have N9 := Lib.hid (N.add N0.out N1.out)
      have S10 := Lib.hid (S6.out.below b)
      have H11 := Lib.hid (H7.out.call b)
      clear b H7
      go_wp2_with (first | (refine load24w (by rfl) _ rfl (w.heap.size) (lim v0) rfl (H11.out.get _ _ _ (by simp)) rfl ?_) | (refine load24w (by rfl) _ rfl (w.heap.size + 1) (lim v1) rfl (H11.out.get _ _ _ (by simp)) rfl ?_))
      refine (cSquare N9.out _).mono ?_
      rintro e w12 ⟨rfl, b⟩
      have N13 := Lib.hid (N.mul N9.out N9.out)
      have S14 := Lib.hid (S10.out.below b)
      have H15 := Lib.hid (H11.out.call b)
      clear b H11
      have HN16 := Lib.hid H15.out.new
      have HP17 := Lib.hid (H15.out.put (lim (mulV (addV v0 v1) (addV v0 v1))))
      have S18 := Lib.hid (S14.out.below (put_below w12 (lim (mulV (addV v0 v1) (addV v0 v1)))))
      go_wp2_with (first | (refine store27 rfl _ _ rfl w12.heap.size (lim (mulV (addV v0 v1) (addV v0 v1))) [0, 0, 0, 0] rfl rfl HN16.out rfl rfl ?_))
      go_meet
      exact ⟨w12.heap.size, rfl, S18.out, HP17.out⟩
    case rest =>
    clear H7 S6
    obtain ⟨b7, rfl, sx, hS⟩ := hcut
    have S18 := Lib.hid sx
    have HP17 := Lib.hid hS
    clear sx hS
    have N9 := Lib.hid (N.add N0.out N1.out)
    have N13 := Lib.hid (N.mul N9.out N9.out)
    go_upto_region 6 with fail
    go_cut [8] (fun s8 wx => ∃ b206 : Nat, s8 = .pointer (some ⟨b206, 0, none⟩) ∧ Sl wx A3 c4 v0 ∧ LS w ((b206, lim (addV (addV (mulV v0 v0) (mulV v1 v1)) (timesV (mulV v0 v1) 2)), 27) :: [(b7, lim (mulV (addV v0 v1) (addV v0 v1)), 27), (w.heap.size, lim v0, 24), (w.heap.size + 1, lim v1, 24)]) wx)
    case first =>
      refine wp_region_held_drew (S := LS w [(b7, lim (mulV (addV v0 v1) (addV v0 v1)), 27), (w.heap.size, lim v0, 24), (w.heap.size + 1, lim v1, 24)]) (by kernel_rfl) HP17.out.drew (fun hst19 => ?_)
      have S20 := Lib.hid S18.out.drew
      refine wpAnyH_take (i := 0) (oi := { dst := some 18, op := Op.load 24 (Operand.tmp 2), type := 24, pos := "law.go:125", after := #[], guard := none }) (v := .agg (Ls (lim v0))) rfl (by kernel_rfl) (by kernel_rfl) (by kernel_rfl) (fun _ _ _ h => h) (lload24 (by rfl) _ rfl (w.heap.size) (lim v0) rfl (by simp) rfl) hst19 ?_
      simp only [Act.put, List.setIfInBounds_toArray, List.set_cons_zero, List.set_cons_succ]
      refine wpAnyH_take (i := 2) (oi := { dst := some 20, op := Op.load 24 (Operand.tmp 3), type := 24, pos := "law.go:125", after := #[], guard := none }) (v := .agg (Ls (lim v1))) rfl (by kernel_rfl) (by kernel_rfl) (by kernel_rfl) (fun _ _ _ h => h) (lload24 (by rfl) _ rfl (w.heap.size + 1) (lim v1) rfl (by simp) rfl) hst19 ?_
      simp only [Act.put, List.setIfInBounds_toArray, List.set_cons_zero, List.set_cons_succ]
      refine wpAnyH_take (i := 5) (oi := { dst := some 23, op := Op.load 24 (Operand.tmp 2), type := 24, pos := "law.go:125", after := #[], guard := none }) (v := .agg (Ls (lim v0))) rfl (by kernel_rfl) (by kernel_rfl) (by kernel_rfl) (fun _ _ _ h => h) (lload24 (by rfl) _ rfl (w.heap.size) (lim v0) rfl (by simp) rfl) hst19 ?_
      simp only [Act.put, List.setIfInBounds_toArray, List.set_cons_zero, List.set_cons_succ]
      refine wpAnyH_take (i := 6) (oi := { dst := some 24, op := Op.load 24 (Operand.tmp 3), type := 24, pos := "law.go:125", after := #[], guard := none }) (v := .agg (Ls (lim v1))) rfl (by kernel_rfl) (by kernel_rfl) (by kernel_rfl) (fun _ _ _ h => h) (lload24 (by rfl) _ rfl (w.heap.size + 1) (lim v1) rfl (by simp) rfl) hst19 ?_
      simp only [Act.put, List.setIfInBounds_toArray, List.set_cons_zero, List.set_cons_succ]
      refine wpAnyH_ready (rs := [1, 10]) (by kernel_rfl) (by simp) ?_
      refine AllReadyH.cons (o := { dst := some 19, op := Op.call { callee := Callee.value (Operand.func 33), args := #[Operand.tmp 18], argTypes := #[27] }, type := 27, pos := "law.go:125", after := #[{ on := 0, ground := Ground.data }], guard := none }) rfl (fun K hK => ?_) ?_
      · go_simp
        refine (cSquare N0.out _).mono ?_
        rintro e w21 ⟨rfl, b⟩
        have N22 := Lib.hid (N.mul N0.out N0.out)
        have S23 := Lib.hid (S20.out.below b)
        refine hK.out _ _ (hst19.call b) (fun hh24 => ?_)
        clear hK K b
        refine wpAnyH_ready (rs := [3, 10]) (by kernel_rfl) (by simp) ?_
        refine AllReadyH.cons (o := { dst := some 21, op := Op.call { callee := Callee.value (Operand.func 33), args := #[Operand.tmp 20], argTypes := #[27] }, type := 27, pos := "law.go:125", after := #[{ on := 2, ground := Ground.data }, { on := 1, ground := Ground.chain }], guard := none }) rfl (fun K hK => ?_) ?_
        · go_simp
          refine (cSquare N1.out _).mono ?_
          rintro e w25 ⟨rfl, b⟩
          have N26 := Lib.hid (N.mul N1.out N1.out)
          have S27 := Lib.hid (S23.out.below b)
          refine hK.out _ _ (hh24.call b) (fun hh28 => ?_)
          clear hK K b
          refine wpAnyH_ready (rs := [4, 10]) (by kernel_rfl) (by simp) ?_
          refine AllReadyH.cons (o := { dst := some 22, op := Op.call { callee := Callee.value (Operand.func 25), args := #[Operand.tmp 19, Operand.tmp 21], argTypes := #[27, 27] }, type := 27, pos := "law.go:125", after := #[{ on := 1, ground := Ground.data }, { on := 3, ground := Ground.data }, { on := 3, ground := Ground.chain }], guard := none }) rfl (fun K hK => ?_) ?_
          · go_simp
            refine (cAdd N22.out N26.out _).mono ?_
            rintro e w29 ⟨rfl, b⟩
            have N30 := Lib.hid (N.add N22.out N26.out)
            have S31 := Lib.hid (S27.out.below b)
            refine hK.out _ _ (hh28.call b) (fun hh32 => ?_)
            clear hK K b
            refine wpAnyH_ready (rs := [7, 10]) (by kernel_rfl) (by simp) ?_
            refine AllReadyH.cons (o := { dst := some 25, op := Op.call { callee := Callee.value (Operand.func 29), args := #[Operand.tmp 23, Operand.tmp 24], argTypes := #[27, 27] }, type := 27, pos := "law.go:125", after := #[{ on := 5, ground := Ground.data }, { on := 6, ground := Ground.data }, { on := 4, ground := Ground.chain }], guard := none }) rfl (fun K hK => ?_) ?_
            · go_simp
              refine (cMul N0.out N1.out _).mono ?_
              rintro e w33 ⟨rfl, b⟩
              have N34 := Lib.hid (N.mul N0.out N1.out)
              have S35 := Lib.hid (S31.out.below b)
              refine hK.out _ _ (hh32.call b) (fun hh36 => ?_)
              clear hK K b
              refine wpAnyH_ready (rs := [8, 10]) (by kernel_rfl) (by simp) ?_
              refine AllReadyH.cons (o := { dst := some 26, op := Op.call { callee := Callee.value (Operand.func 31), args := #[Operand.tmp 25, Operand.const (Value.int IntKind.u32 2)], argTypes := #[27, 36] }, type := 27, pos := "law.go:125", after := #[{ on := 7, ground := Ground.data }, { on := 7, ground := Ground.chain }], guard := none }) rfl (fun K hK => ?_) ?_
              · go_simp
                refine (cTimes N34.out 2 (by omega) (by omega) _).mono ?_
                rintro e w37 ⟨rfl, b⟩
                have N38 := Lib.hid (N.times (n := 2) N34.out (by omega) (by omega))
                have S39 := Lib.hid (S35.out.below b)
                refine hK.out _ _ (hh36.call b) (fun hh40 => ?_)
                clear hK K b
                refine wpAnyH_ready (rs := [9, 10]) (by kernel_rfl) (by simp) ?_
                refine AllReadyH.cons (o := { dst := some 27, op := Op.call { callee := Callee.value (Operand.func 25), args := #[Operand.tmp 22, Operand.tmp 26], argTypes := #[27, 27] }, type := 27, pos := "law.go:125", after := #[{ on := 4, ground := Ground.data }, { on := 8, ground := Ground.data }, { on := 8, ground := Ground.chain }], guard := none }) rfl (fun K hK => ?_) ?_
                · go_simp
                  refine (cAdd N30.out N38.out _).mono ?_
                  rintro e w41 ⟨rfl, b⟩
                  have N42 := Lib.hid (N.add N30.out N38.out)
                  have S43 := Lib.hid (S39.out.below b)
                  refine hK.out _ _ (hh40.call b) (fun hh44 => ?_)
                  clear hK K b
                  refine wpAnyH_ready (rs := [10]) (by kernel_rfl) (by simp) ?_
                  refine AllReadyH.cons (o := { dst := some 8, op := Op.alloc 27, type := 0, pos := "law.go:125", after := #[], guard := none }) rfl (fun K hK => ?_) ?_
                  · go_simp
                    have hf46 := hh44.fresh
                    have hz47 := hh44.below.size
                    have hn45 := hh44.new
                    have hbel49 := hh44.newBelow
                    refine hK.out _ _ (hh44.alloc _) (fun hh48 => ?_)
                    clear hK K
                    refine wpAnyH_ready (rs := [11]) (by kernel_rfl) (by simp) ?_
                    refine AllReadyH.cons (o := { dst := none, op := Op.store 27 (Operand.tmp 8) (Operand.tmp 27), type := 0, pos := "law.go:125", after := #[{ on := 10, ground := Ground.data }, { on := 9, ground := Ground.data }, { on := 9, ground := Ground.chain }, { on := 0, ground := Ground.phase }, { on := 1, ground := Ground.phase }, { on := 2, ground := Ground.phase }, { on := 3, ground := Ground.phase }, { on := 4, ground := Ground.phase }, { on := 5, ground := Ground.phase }, { on := 6, ground := Ground.phase }, { on := 7, ground := Ground.phase }, { on := 8, ground := Ground.phase }, { on := 9, ground := Ground.phase }, { on := 10, ground := Ground.phase }], guard := none }) rfl (fun K hK => ?_) ?_
                    · refine step_store27 rfl _ _ rfl _ (lim (addV (addV (mulV v0 v0) (mulV v1 v1)) (timesV (mulV v0 v1) 2))) [0, 0, 0, 0] rfl rfl hn45 rfl rfl ?_
                      have hbel51 := below_setRow hbel49 (Nat.le_refl _) (Ls (lim (addV (addV (mulV v0 v0) (mulV v1 v1)) (timesV (mulV v0 v1) 2))))
                      refine hK.out _ _ (hh48.row _ hz47 hf46 (lim (addV (addV (mulV v0 v0) (mulV v1 v1)) (timesV (mulV v0 v1) 2)))) (fun hh50 => ?_)
                      clear hK K
                      have hn52 := ls_row (cs := Ls (lim (addV (addV (mulV v0 v0) (mulV v1 v1)) (timesV (mulV v0 v1) 2)))) hn45
                      refine wpAnyH_done (by kernel_rfl) ?_ _
                      go_wp2_with fail
                      go_meet
                      exact ⟨_, rfl, (S43.out.below hbel51), hh50.add hz47 hn52⟩
                    exact AllReadyH.nil
                  exact AllReadyH.nil
                refine AllReadyH.cons (o := { dst := some 8, op := Op.alloc 27, type := 0, pos := "law.go:125", after := #[], guard := none }) rfl (fun K hK => ?_) ?_
                · go_simp
                  have hf54 := hh40.fresh
                  have hz55 := hh40.below.size
                  have hn53 := hh40.new
                  have hbel57 := hh40.newBelow
                  refine hK.out _ _ (hh40.alloc _) (fun hh56 => ?_)
                  clear hK K
                  refine wpAnyH_ready (rs := [9]) (by kernel_rfl) (by simp) ?_
                  refine AllReadyH.cons (o := { dst := some 27, op := Op.call { callee := Callee.value (Operand.func 25), args := #[Operand.tmp 22, Operand.tmp 26], argTypes := #[27, 27] }, type := 27, pos := "law.go:125", after := #[{ on := 4, ground := Ground.data }, { on := 8, ground := Ground.data }, { on := 8, ground := Ground.chain }], guard := none }) rfl (fun K hK => ?_) ?_
                  · go_simp
                    refine (cAdd N30.out N38.out _).mono ?_
                    rintro e w58 ⟨rfl, b⟩
                    have N59 := Lib.hid (N.add N30.out N38.out)
                    have hn61 := (b.block _ (blk_lt hn53)).trans hn53
                    have hbel62 := hbel57.trans (b.mono hbel57.size)
                    refine hK.out _ _ (hh56.call b) (fun hh60 => ?_)
                    clear hK K b
                    refine wpAnyH_ready (rs := [11]) (by kernel_rfl) (by simp) ?_
                    refine AllReadyH.cons (o := { dst := none, op := Op.store 27 (Operand.tmp 8) (Operand.tmp 27), type := 0, pos := "law.go:125", after := #[{ on := 10, ground := Ground.data }, { on := 9, ground := Ground.data }, { on := 9, ground := Ground.chain }, { on := 0, ground := Ground.phase }, { on := 1, ground := Ground.phase }, { on := 2, ground := Ground.phase }, { on := 3, ground := Ground.phase }, { on := 4, ground := Ground.phase }, { on := 5, ground := Ground.phase }, { on := 6, ground := Ground.phase }, { on := 7, ground := Ground.phase }, { on := 8, ground := Ground.phase }, { on := 9, ground := Ground.phase }, { on := 10, ground := Ground.phase }], guard := none }) rfl (fun K hK => ?_) ?_
                    · refine step_store27 rfl _ _ rfl _ (lim (addV (addV (mulV v0 v0) (mulV v1 v1)) (timesV (mulV v0 v1) 2))) [0, 0, 0, 0] rfl rfl hn61 rfl rfl ?_
                      have hbel64 := below_setRow hbel62 (Nat.le_refl _) (Ls (lim (addV (addV (mulV v0 v0) (mulV v1 v1)) (timesV (mulV v0 v1) 2))))
                      refine hK.out _ _ (hh60.row _ hz55 hf54 (lim (addV (addV (mulV v0 v0) (mulV v1 v1)) (timesV (mulV v0 v1) 2)))) (fun hh63 => ?_)
                      clear hK K
                      have hn65 := ls_row (cs := Ls (lim (addV (addV (mulV v0 v0) (mulV v1 v1)) (timesV (mulV v0 v1) 2)))) hn61
                      refine wpAnyH_done (by kernel_rfl) ?_ _
                      go_wp2_with fail
                      go_meet
                      exact ⟨_, rfl, (S39.out.below hbel64), hh63.add hz55 hn65⟩
                    exact AllReadyH.nil
                  exact AllReadyH.nil
                exact AllReadyH.nil
              refine AllReadyH.cons (o := { dst := some 8, op := Op.alloc 27, type := 0, pos := "law.go:125", after := #[], guard := none }) rfl (fun K hK => ?_) ?_
              · go_simp
                have hf67 := hh36.fresh
                have hz68 := hh36.below.size
                have hn66 := hh36.new
                have hbel70 := hh36.newBelow
                refine hK.out _ _ (hh36.alloc _) (fun hh69 => ?_)
                clear hK K
                refine wpAnyH_ready (rs := [8]) (by kernel_rfl) (by simp) ?_
                refine AllReadyH.cons (o := { dst := some 26, op := Op.call { callee := Callee.value (Operand.func 31), args := #[Operand.tmp 25, Operand.const (Value.int IntKind.u32 2)], argTypes := #[27, 36] }, type := 27, pos := "law.go:125", after := #[{ on := 7, ground := Ground.data }, { on := 7, ground := Ground.chain }], guard := none }) rfl (fun K hK => ?_) ?_
                · go_simp
                  refine (cTimes N34.out 2 (by omega) (by omega) _).mono ?_
                  rintro e w71 ⟨rfl, b⟩
                  have N72 := Lib.hid (N.times (n := 2) N34.out (by omega) (by omega))
                  have hn74 := (b.block _ (blk_lt hn66)).trans hn66
                  have hbel75 := hbel70.trans (b.mono hbel70.size)
                  refine hK.out _ _ (hh69.call b) (fun hh73 => ?_)
                  clear hK K b
                  refine wpAnyH_ready (rs := [9]) (by kernel_rfl) (by simp) ?_
                  refine AllReadyH.cons (o := { dst := some 27, op := Op.call { callee := Callee.value (Operand.func 25), args := #[Operand.tmp 22, Operand.tmp 26], argTypes := #[27, 27] }, type := 27, pos := "law.go:125", after := #[{ on := 4, ground := Ground.data }, { on := 8, ground := Ground.data }, { on := 8, ground := Ground.chain }], guard := none }) rfl (fun K hK => ?_) ?_
                  · go_simp
                    refine (cAdd N30.out N72.out _).mono ?_
                    rintro e w76 ⟨rfl, b⟩
                    have N77 := Lib.hid (N.add N30.out N72.out)
                    have hn79 := (b.block _ (blk_lt hn74)).trans hn74
                    have hbel80 := hbel75.trans (b.mono hbel75.size)
                    refine hK.out _ _ (hh73.call b) (fun hh78 => ?_)
                    clear hK K b
                    refine wpAnyH_ready (rs := [11]) (by kernel_rfl) (by simp) ?_
                    refine AllReadyH.cons (o := { dst := none, op := Op.store 27 (Operand.tmp 8) (Operand.tmp 27), type := 0, pos := "law.go:125", after := #[{ on := 10, ground := Ground.data }, { on := 9, ground := Ground.data }, { on := 9, ground := Ground.chain }, { on := 0, ground := Ground.phase }, { on := 1, ground := Ground.phase }, { on := 2, ground := Ground.phase }, { on := 3, ground := Ground.phase }, { on := 4, ground := Ground.phase }, { on := 5, ground := Ground.phase }, { on := 6, ground := Ground.phase }, { on := 7, ground := Ground.phase }, { on := 8, ground := Ground.phase }, { on := 9, ground := Ground.phase }, { on := 10, ground := Ground.phase }], guard := none }) rfl (fun K hK => ?_) ?_
                    · refine step_store27 rfl _ _ rfl _ (lim (addV (addV (mulV v0 v0) (mulV v1 v1)) (timesV (mulV v0 v1) 2))) [0, 0, 0, 0] rfl rfl hn79 rfl rfl ?_
                      have hbel82 := below_setRow hbel80 (Nat.le_refl _) (Ls (lim (addV (addV (mulV v0 v0) (mulV v1 v1)) (timesV (mulV v0 v1) 2))))
                      refine hK.out _ _ (hh78.row _ hz68 hf67 (lim (addV (addV (mulV v0 v0) (mulV v1 v1)) (timesV (mulV v0 v1) 2)))) (fun hh81 => ?_)
                      clear hK K
                      have hn83 := ls_row (cs := Ls (lim (addV (addV (mulV v0 v0) (mulV v1 v1)) (timesV (mulV v0 v1) 2)))) hn79
                      refine wpAnyH_done (by kernel_rfl) ?_ _
                      go_wp2_with fail
                      go_meet
                      exact ⟨_, rfl, (S35.out.below hbel82), hh81.add hz68 hn83⟩
                    exact AllReadyH.nil
                  exact AllReadyH.nil
                exact AllReadyH.nil
              exact AllReadyH.nil
            refine AllReadyH.cons (o := { dst := some 8, op := Op.alloc 27, type := 0, pos := "law.go:125", after := #[], guard := none }) rfl (fun K hK => ?_) ?_
            · go_simp
              have hf85 := hh32.fresh
              have hz86 := hh32.below.size
              have hn84 := hh32.new
              have hbel88 := hh32.newBelow
              refine hK.out _ _ (hh32.alloc _) (fun hh87 => ?_)
              clear hK K
              refine wpAnyH_ready (rs := [7]) (by kernel_rfl) (by simp) ?_
              refine AllReadyH.cons (o := { dst := some 25, op := Op.call { callee := Callee.value (Operand.func 29), args := #[Operand.tmp 23, Operand.tmp 24], argTypes := #[27, 27] }, type := 27, pos := "law.go:125", after := #[{ on := 5, ground := Ground.data }, { on := 6, ground := Ground.data }, { on := 4, ground := Ground.chain }], guard := none }) rfl (fun K hK => ?_) ?_
              · go_simp
                refine (cMul N0.out N1.out _).mono ?_
                rintro e w89 ⟨rfl, b⟩
                have N90 := Lib.hid (N.mul N0.out N1.out)
                have hn92 := (b.block _ (blk_lt hn84)).trans hn84
                have hbel93 := hbel88.trans (b.mono hbel88.size)
                refine hK.out _ _ (hh87.call b) (fun hh91 => ?_)
                clear hK K b
                refine wpAnyH_ready (rs := [8]) (by kernel_rfl) (by simp) ?_
                refine AllReadyH.cons (o := { dst := some 26, op := Op.call { callee := Callee.value (Operand.func 31), args := #[Operand.tmp 25, Operand.const (Value.int IntKind.u32 2)], argTypes := #[27, 36] }, type := 27, pos := "law.go:125", after := #[{ on := 7, ground := Ground.data }, { on := 7, ground := Ground.chain }], guard := none }) rfl (fun K hK => ?_) ?_
                · go_simp
                  refine (cTimes N90.out 2 (by omega) (by omega) _).mono ?_
                  rintro e w94 ⟨rfl, b⟩
                  have N95 := Lib.hid (N.times (n := 2) N90.out (by omega) (by omega))
                  have hn97 := (b.block _ (blk_lt hn92)).trans hn92
                  have hbel98 := hbel93.trans (b.mono hbel93.size)
                  refine hK.out _ _ (hh91.call b) (fun hh96 => ?_)
                  clear hK K b
                  refine wpAnyH_ready (rs := [9]) (by kernel_rfl) (by simp) ?_
                  refine AllReadyH.cons (o := { dst := some 27, op := Op.call { callee := Callee.value (Operand.func 25), args := #[Operand.tmp 22, Operand.tmp 26], argTypes := #[27, 27] }, type := 27, pos := "law.go:125", after := #[{ on := 4, ground := Ground.data }, { on := 8, ground := Ground.data }, { on := 8, ground := Ground.chain }], guard := none }) rfl (fun K hK => ?_) ?_
                  · go_simp
                    refine (cAdd N30.out N95.out _).mono ?_
                    rintro e w99 ⟨rfl, b⟩
                    have N100 := Lib.hid (N.add N30.out N95.out)
                    have hn102 := (b.block _ (blk_lt hn97)).trans hn97
                    have hbel103 := hbel98.trans (b.mono hbel98.size)
                    refine hK.out _ _ (hh96.call b) (fun hh101 => ?_)
                    clear hK K b
                    refine wpAnyH_ready (rs := [11]) (by kernel_rfl) (by simp) ?_
                    refine AllReadyH.cons (o := { dst := none, op := Op.store 27 (Operand.tmp 8) (Operand.tmp 27), type := 0, pos := "law.go:125", after := #[{ on := 10, ground := Ground.data }, { on := 9, ground := Ground.data }, { on := 9, ground := Ground.chain }, { on := 0, ground := Ground.phase }, { on := 1, ground := Ground.phase }, { on := 2, ground := Ground.phase }, { on := 3, ground := Ground.phase }, { on := 4, ground := Ground.phase }, { on := 5, ground := Ground.phase }, { on := 6, ground := Ground.phase }, { on := 7, ground := Ground.phase }, { on := 8, ground := Ground.phase }, { on := 9, ground := Ground.phase }, { on := 10, ground := Ground.phase }], guard := none }) rfl (fun K hK => ?_) ?_
                    · refine step_store27 rfl _ _ rfl _ (lim (addV (addV (mulV v0 v0) (mulV v1 v1)) (timesV (mulV v0 v1) 2))) [0, 0, 0, 0] rfl rfl hn102 rfl rfl ?_
                      have hbel105 := below_setRow hbel103 (Nat.le_refl _) (Ls (lim (addV (addV (mulV v0 v0) (mulV v1 v1)) (timesV (mulV v0 v1) 2))))
                      refine hK.out _ _ (hh101.row _ hz86 hf85 (lim (addV (addV (mulV v0 v0) (mulV v1 v1)) (timesV (mulV v0 v1) 2)))) (fun hh104 => ?_)
                      clear hK K
                      have hn106 := ls_row (cs := Ls (lim (addV (addV (mulV v0 v0) (mulV v1 v1)) (timesV (mulV v0 v1) 2)))) hn102
                      refine wpAnyH_done (by kernel_rfl) ?_ _
                      go_wp2_with fail
                      go_meet
                      exact ⟨_, rfl, (S31.out.below hbel105), hh104.add hz86 hn106⟩
                    exact AllReadyH.nil
                  exact AllReadyH.nil
                exact AllReadyH.nil
              exact AllReadyH.nil
            exact AllReadyH.nil
          refine AllReadyH.cons (o := { dst := some 8, op := Op.alloc 27, type := 0, pos := "law.go:125", after := #[], guard := none }) rfl (fun K hK => ?_) ?_
          · go_simp
            have hf108 := hh28.fresh
            have hz109 := hh28.below.size
            have hn107 := hh28.new
            have hbel111 := hh28.newBelow
            refine hK.out _ _ (hh28.alloc _) (fun hh110 => ?_)
            clear hK K
            refine wpAnyH_ready (rs := [4]) (by kernel_rfl) (by simp) ?_
            refine AllReadyH.cons (o := { dst := some 22, op := Op.call { callee := Callee.value (Operand.func 25), args := #[Operand.tmp 19, Operand.tmp 21], argTypes := #[27, 27] }, type := 27, pos := "law.go:125", after := #[{ on := 1, ground := Ground.data }, { on := 3, ground := Ground.data }, { on := 3, ground := Ground.chain }], guard := none }) rfl (fun K hK => ?_) ?_
            · go_simp
              refine (cAdd N22.out N26.out _).mono ?_
              rintro e w112 ⟨rfl, b⟩
              have N113 := Lib.hid (N.add N22.out N26.out)
              have hn115 := (b.block _ (blk_lt hn107)).trans hn107
              have hbel116 := hbel111.trans (b.mono hbel111.size)
              refine hK.out _ _ (hh110.call b) (fun hh114 => ?_)
              clear hK K b
              refine wpAnyH_ready (rs := [7]) (by kernel_rfl) (by simp) ?_
              refine AllReadyH.cons (o := { dst := some 25, op := Op.call { callee := Callee.value (Operand.func 29), args := #[Operand.tmp 23, Operand.tmp 24], argTypes := #[27, 27] }, type := 27, pos := "law.go:125", after := #[{ on := 5, ground := Ground.data }, { on := 6, ground := Ground.data }, { on := 4, ground := Ground.chain }], guard := none }) rfl (fun K hK => ?_) ?_
              · go_simp
                refine (cMul N0.out N1.out _).mono ?_
                rintro e w117 ⟨rfl, b⟩
                have N118 := Lib.hid (N.mul N0.out N1.out)
                have hn120 := (b.block _ (blk_lt hn115)).trans hn115
                have hbel121 := hbel116.trans (b.mono hbel116.size)
                refine hK.out _ _ (hh114.call b) (fun hh119 => ?_)
                clear hK K b
                refine wpAnyH_ready (rs := [8]) (by kernel_rfl) (by simp) ?_
                refine AllReadyH.cons (o := { dst := some 26, op := Op.call { callee := Callee.value (Operand.func 31), args := #[Operand.tmp 25, Operand.const (Value.int IntKind.u32 2)], argTypes := #[27, 36] }, type := 27, pos := "law.go:125", after := #[{ on := 7, ground := Ground.data }, { on := 7, ground := Ground.chain }], guard := none }) rfl (fun K hK => ?_) ?_
                · go_simp
                  refine (cTimes N118.out 2 (by omega) (by omega) _).mono ?_
                  rintro e w122 ⟨rfl, b⟩
                  have N123 := Lib.hid (N.times (n := 2) N118.out (by omega) (by omega))
                  have hn125 := (b.block _ (blk_lt hn120)).trans hn120
                  have hbel126 := hbel121.trans (b.mono hbel121.size)
                  refine hK.out _ _ (hh119.call b) (fun hh124 => ?_)
                  clear hK K b
                  refine wpAnyH_ready (rs := [9]) (by kernel_rfl) (by simp) ?_
                  refine AllReadyH.cons (o := { dst := some 27, op := Op.call { callee := Callee.value (Operand.func 25), args := #[Operand.tmp 22, Operand.tmp 26], argTypes := #[27, 27] }, type := 27, pos := "law.go:125", after := #[{ on := 4, ground := Ground.data }, { on := 8, ground := Ground.data }, { on := 8, ground := Ground.chain }], guard := none }) rfl (fun K hK => ?_) ?_
                  · go_simp
                    refine (cAdd N113.out N123.out _).mono ?_
                    rintro e w127 ⟨rfl, b⟩
                    have N128 := Lib.hid (N.add N113.out N123.out)
                    have hn130 := (b.block _ (blk_lt hn125)).trans hn125
                    have hbel131 := hbel126.trans (b.mono hbel126.size)
                    refine hK.out _ _ (hh124.call b) (fun hh129 => ?_)
                    clear hK K b
                    refine wpAnyH_ready (rs := [11]) (by kernel_rfl) (by simp) ?_
                    refine AllReadyH.cons (o := { dst := none, op := Op.store 27 (Operand.tmp 8) (Operand.tmp 27), type := 0, pos := "law.go:125", after := #[{ on := 10, ground := Ground.data }, { on := 9, ground := Ground.data }, { on := 9, ground := Ground.chain }, { on := 0, ground := Ground.phase }, { on := 1, ground := Ground.phase }, { on := 2, ground := Ground.phase }, { on := 3, ground := Ground.phase }, { on := 4, ground := Ground.phase }, { on := 5, ground := Ground.phase }, { on := 6, ground := Ground.phase }, { on := 7, ground := Ground.phase }, { on := 8, ground := Ground.phase }, { on := 9, ground := Ground.phase }, { on := 10, ground := Ground.phase }], guard := none }) rfl (fun K hK => ?_) ?_
                    · refine step_store27 rfl _ _ rfl _ (lim (addV (addV (mulV v0 v0) (mulV v1 v1)) (timesV (mulV v0 v1) 2))) [0, 0, 0, 0] rfl rfl hn130 rfl rfl ?_
                      have hbel133 := below_setRow hbel131 (Nat.le_refl _) (Ls (lim (addV (addV (mulV v0 v0) (mulV v1 v1)) (timesV (mulV v0 v1) 2))))
                      refine hK.out _ _ (hh129.row _ hz109 hf108 (lim (addV (addV (mulV v0 v0) (mulV v1 v1)) (timesV (mulV v0 v1) 2)))) (fun hh132 => ?_)
                      clear hK K
                      have hn134 := ls_row (cs := Ls (lim (addV (addV (mulV v0 v0) (mulV v1 v1)) (timesV (mulV v0 v1) 2)))) hn130
                      refine wpAnyH_done (by kernel_rfl) ?_ _
                      go_wp2_with fail
                      go_meet
                      exact ⟨_, rfl, (S27.out.below hbel133), hh132.add hz109 hn134⟩
                    exact AllReadyH.nil
                  exact AllReadyH.nil
                exact AllReadyH.nil
              exact AllReadyH.nil
            exact AllReadyH.nil
          exact AllReadyH.nil
        refine AllReadyH.cons (o := { dst := some 8, op := Op.alloc 27, type := 0, pos := "law.go:125", after := #[], guard := none }) rfl (fun K hK => ?_) ?_
        · go_simp
          have hf136 := hh24.fresh
          have hz137 := hh24.below.size
          have hn135 := hh24.new
          have hbel139 := hh24.newBelow
          refine hK.out _ _ (hh24.alloc _) (fun hh138 => ?_)
          clear hK K
          refine wpAnyH_ready (rs := [3]) (by kernel_rfl) (by simp) ?_
          refine AllReadyH.cons (o := { dst := some 21, op := Op.call { callee := Callee.value (Operand.func 33), args := #[Operand.tmp 20], argTypes := #[27] }, type := 27, pos := "law.go:125", after := #[{ on := 2, ground := Ground.data }, { on := 1, ground := Ground.chain }], guard := none }) rfl (fun K hK => ?_) ?_
          · go_simp
            refine (cSquare N1.out _).mono ?_
            rintro e w140 ⟨rfl, b⟩
            have N141 := Lib.hid (N.mul N1.out N1.out)
            have hn143 := (b.block _ (blk_lt hn135)).trans hn135
            have hbel144 := hbel139.trans (b.mono hbel139.size)
            refine hK.out _ _ (hh138.call b) (fun hh142 => ?_)
            clear hK K b
            refine wpAnyH_ready (rs := [4]) (by kernel_rfl) (by simp) ?_
            refine AllReadyH.cons (o := { dst := some 22, op := Op.call { callee := Callee.value (Operand.func 25), args := #[Operand.tmp 19, Operand.tmp 21], argTypes := #[27, 27] }, type := 27, pos := "law.go:125", after := #[{ on := 1, ground := Ground.data }, { on := 3, ground := Ground.data }, { on := 3, ground := Ground.chain }], guard := none }) rfl (fun K hK => ?_) ?_
            · go_simp
              refine (cAdd N22.out N141.out _).mono ?_
              rintro e w145 ⟨rfl, b⟩
              have N146 := Lib.hid (N.add N22.out N141.out)
              have hn148 := (b.block _ (blk_lt hn143)).trans hn143
              have hbel149 := hbel144.trans (b.mono hbel144.size)
              refine hK.out _ _ (hh142.call b) (fun hh147 => ?_)
              clear hK K b
              refine wpAnyH_ready (rs := [7]) (by kernel_rfl) (by simp) ?_
              refine AllReadyH.cons (o := { dst := some 25, op := Op.call { callee := Callee.value (Operand.func 29), args := #[Operand.tmp 23, Operand.tmp 24], argTypes := #[27, 27] }, type := 27, pos := "law.go:125", after := #[{ on := 5, ground := Ground.data }, { on := 6, ground := Ground.data }, { on := 4, ground := Ground.chain }], guard := none }) rfl (fun K hK => ?_) ?_
              · go_simp
                refine (cMul N0.out N1.out _).mono ?_
                rintro e w150 ⟨rfl, b⟩
                have N151 := Lib.hid (N.mul N0.out N1.out)
                have hn153 := (b.block _ (blk_lt hn148)).trans hn148
                have hbel154 := hbel149.trans (b.mono hbel149.size)
                refine hK.out _ _ (hh147.call b) (fun hh152 => ?_)
                clear hK K b
                refine wpAnyH_ready (rs := [8]) (by kernel_rfl) (by simp) ?_
                refine AllReadyH.cons (o := { dst := some 26, op := Op.call { callee := Callee.value (Operand.func 31), args := #[Operand.tmp 25, Operand.const (Value.int IntKind.u32 2)], argTypes := #[27, 36] }, type := 27, pos := "law.go:125", after := #[{ on := 7, ground := Ground.data }, { on := 7, ground := Ground.chain }], guard := none }) rfl (fun K hK => ?_) ?_
                · go_simp
                  refine (cTimes N151.out 2 (by omega) (by omega) _).mono ?_
                  rintro e w155 ⟨rfl, b⟩
                  have N156 := Lib.hid (N.times (n := 2) N151.out (by omega) (by omega))
                  have hn158 := (b.block _ (blk_lt hn153)).trans hn153
                  have hbel159 := hbel154.trans (b.mono hbel154.size)
                  refine hK.out _ _ (hh152.call b) (fun hh157 => ?_)
                  clear hK K b
                  refine wpAnyH_ready (rs := [9]) (by kernel_rfl) (by simp) ?_
                  refine AllReadyH.cons (o := { dst := some 27, op := Op.call { callee := Callee.value (Operand.func 25), args := #[Operand.tmp 22, Operand.tmp 26], argTypes := #[27, 27] }, type := 27, pos := "law.go:125", after := #[{ on := 4, ground := Ground.data }, { on := 8, ground := Ground.data }, { on := 8, ground := Ground.chain }], guard := none }) rfl (fun K hK => ?_) ?_
                  · go_simp
                    refine (cAdd N146.out N156.out _).mono ?_
                    rintro e w160 ⟨rfl, b⟩
                    have N161 := Lib.hid (N.add N146.out N156.out)
                    have hn163 := (b.block _ (blk_lt hn158)).trans hn158
                    have hbel164 := hbel159.trans (b.mono hbel159.size)
                    refine hK.out _ _ (hh157.call b) (fun hh162 => ?_)
                    clear hK K b
                    refine wpAnyH_ready (rs := [11]) (by kernel_rfl) (by simp) ?_
                    refine AllReadyH.cons (o := { dst := none, op := Op.store 27 (Operand.tmp 8) (Operand.tmp 27), type := 0, pos := "law.go:125", after := #[{ on := 10, ground := Ground.data }, { on := 9, ground := Ground.data }, { on := 9, ground := Ground.chain }, { on := 0, ground := Ground.phase }, { on := 1, ground := Ground.phase }, { on := 2, ground := Ground.phase }, { on := 3, ground := Ground.phase }, { on := 4, ground := Ground.phase }, { on := 5, ground := Ground.phase }, { on := 6, ground := Ground.phase }, { on := 7, ground := Ground.phase }, { on := 8, ground := Ground.phase }, { on := 9, ground := Ground.phase }, { on := 10, ground := Ground.phase }], guard := none }) rfl (fun K hK => ?_) ?_
                    · refine step_store27 rfl _ _ rfl _ (lim (addV (addV (mulV v0 v0) (mulV v1 v1)) (timesV (mulV v0 v1) 2))) [0, 0, 0, 0] rfl rfl hn163 rfl rfl ?_
                      have hbel166 := below_setRow hbel164 (Nat.le_refl _) (Ls (lim (addV (addV (mulV v0 v0) (mulV v1 v1)) (timesV (mulV v0 v1) 2))))
                      refine hK.out _ _ (hh162.row _ hz137 hf136 (lim (addV (addV (mulV v0 v0) (mulV v1 v1)) (timesV (mulV v0 v1) 2)))) (fun hh165 => ?_)
                      clear hK K
                      have hn167 := ls_row (cs := Ls (lim (addV (addV (mulV v0 v0) (mulV v1 v1)) (timesV (mulV v0 v1) 2)))) hn163
                      refine wpAnyH_done (by kernel_rfl) ?_ _
                      go_wp2_with fail
                      go_meet
                      exact ⟨_, rfl, (S23.out.below hbel166), hh165.add hz137 hn167⟩
                    exact AllReadyH.nil
                  exact AllReadyH.nil
                exact AllReadyH.nil
              exact AllReadyH.nil
            exact AllReadyH.nil
          exact AllReadyH.nil
        exact AllReadyH.nil
      refine AllReadyH.cons (o := { dst := some 8, op := Op.alloc 27, type := 0, pos := "law.go:125", after := #[], guard := none }) rfl (fun K hK => ?_) ?_
      · go_simp
        have hf169 := hst19.fresh
        have hz170 := hst19.below.size
        have hn168 := hst19.new
        have hbel172 := hst19.newBelow
        refine hK.out _ _ (hst19.alloc _) (fun hh171 => ?_)
        clear hK K
        refine wpAnyH_ready (rs := [1]) (by kernel_rfl) (by simp) ?_
        refine AllReadyH.cons (o := { dst := some 19, op := Op.call { callee := Callee.value (Operand.func 33), args := #[Operand.tmp 18], argTypes := #[27] }, type := 27, pos := "law.go:125", after := #[{ on := 0, ground := Ground.data }], guard := none }) rfl (fun K hK => ?_) ?_
        · go_simp
          refine (cSquare N0.out _).mono ?_
          rintro e w173 ⟨rfl, b⟩
          have N174 := Lib.hid (N.mul N0.out N0.out)
          have hn176 := (b.block _ (blk_lt hn168)).trans hn168
          have hbel177 := hbel172.trans (b.mono hbel172.size)
          refine hK.out _ _ (hh171.call b) (fun hh175 => ?_)
          clear hK K b
          refine wpAnyH_ready (rs := [3]) (by kernel_rfl) (by simp) ?_
          refine AllReadyH.cons (o := { dst := some 21, op := Op.call { callee := Callee.value (Operand.func 33), args := #[Operand.tmp 20], argTypes := #[27] }, type := 27, pos := "law.go:125", after := #[{ on := 2, ground := Ground.data }, { on := 1, ground := Ground.chain }], guard := none }) rfl (fun K hK => ?_) ?_
          · go_simp
            refine (cSquare N1.out _).mono ?_
            rintro e w178 ⟨rfl, b⟩
            have N179 := Lib.hid (N.mul N1.out N1.out)
            have hn181 := (b.block _ (blk_lt hn176)).trans hn176
            have hbel182 := hbel177.trans (b.mono hbel177.size)
            refine hK.out _ _ (hh175.call b) (fun hh180 => ?_)
            clear hK K b
            refine wpAnyH_ready (rs := [4]) (by kernel_rfl) (by simp) ?_
            refine AllReadyH.cons (o := { dst := some 22, op := Op.call { callee := Callee.value (Operand.func 25), args := #[Operand.tmp 19, Operand.tmp 21], argTypes := #[27, 27] }, type := 27, pos := "law.go:125", after := #[{ on := 1, ground := Ground.data }, { on := 3, ground := Ground.data }, { on := 3, ground := Ground.chain }], guard := none }) rfl (fun K hK => ?_) ?_
            · go_simp
              refine (cAdd N174.out N179.out _).mono ?_
              rintro e w183 ⟨rfl, b⟩
              have N184 := Lib.hid (N.add N174.out N179.out)
              have hn186 := (b.block _ (blk_lt hn181)).trans hn181
              have hbel187 := hbel182.trans (b.mono hbel182.size)
              refine hK.out _ _ (hh180.call b) (fun hh185 => ?_)
              clear hK K b
              refine wpAnyH_ready (rs := [7]) (by kernel_rfl) (by simp) ?_
              refine AllReadyH.cons (o := { dst := some 25, op := Op.call { callee := Callee.value (Operand.func 29), args := #[Operand.tmp 23, Operand.tmp 24], argTypes := #[27, 27] }, type := 27, pos := "law.go:125", after := #[{ on := 5, ground := Ground.data }, { on := 6, ground := Ground.data }, { on := 4, ground := Ground.chain }], guard := none }) rfl (fun K hK => ?_) ?_
              · go_simp
                refine (cMul N0.out N1.out _).mono ?_
                rintro e w188 ⟨rfl, b⟩
                have N189 := Lib.hid (N.mul N0.out N1.out)
                have hn191 := (b.block _ (blk_lt hn186)).trans hn186
                have hbel192 := hbel187.trans (b.mono hbel187.size)
                refine hK.out _ _ (hh185.call b) (fun hh190 => ?_)
                clear hK K b
                refine wpAnyH_ready (rs := [8]) (by kernel_rfl) (by simp) ?_
                refine AllReadyH.cons (o := { dst := some 26, op := Op.call { callee := Callee.value (Operand.func 31), args := #[Operand.tmp 25, Operand.const (Value.int IntKind.u32 2)], argTypes := #[27, 36] }, type := 27, pos := "law.go:125", after := #[{ on := 7, ground := Ground.data }, { on := 7, ground := Ground.chain }], guard := none }) rfl (fun K hK => ?_) ?_
                · go_simp
                  refine (cTimes N189.out 2 (by omega) (by omega) _).mono ?_
                  rintro e w193 ⟨rfl, b⟩
                  have N194 := Lib.hid (N.times (n := 2) N189.out (by omega) (by omega))
                  have hn196 := (b.block _ (blk_lt hn191)).trans hn191
                  have hbel197 := hbel192.trans (b.mono hbel192.size)
                  refine hK.out _ _ (hh190.call b) (fun hh195 => ?_)
                  clear hK K b
                  refine wpAnyH_ready (rs := [9]) (by kernel_rfl) (by simp) ?_
                  refine AllReadyH.cons (o := { dst := some 27, op := Op.call { callee := Callee.value (Operand.func 25), args := #[Operand.tmp 22, Operand.tmp 26], argTypes := #[27, 27] }, type := 27, pos := "law.go:125", after := #[{ on := 4, ground := Ground.data }, { on := 8, ground := Ground.data }, { on := 8, ground := Ground.chain }], guard := none }) rfl (fun K hK => ?_) ?_
                  · go_simp
                    refine (cAdd N184.out N194.out _).mono ?_
                    rintro e w198 ⟨rfl, b⟩
                    have N199 := Lib.hid (N.add N184.out N194.out)
                    have hn201 := (b.block _ (blk_lt hn196)).trans hn196
                    have hbel202 := hbel197.trans (b.mono hbel197.size)
                    refine hK.out _ _ (hh195.call b) (fun hh200 => ?_)
                    clear hK K b
                    refine wpAnyH_ready (rs := [11]) (by kernel_rfl) (by simp) ?_
                    refine AllReadyH.cons (o := { dst := none, op := Op.store 27 (Operand.tmp 8) (Operand.tmp 27), type := 0, pos := "law.go:125", after := #[{ on := 10, ground := Ground.data }, { on := 9, ground := Ground.data }, { on := 9, ground := Ground.chain }, { on := 0, ground := Ground.phase }, { on := 1, ground := Ground.phase }, { on := 2, ground := Ground.phase }, { on := 3, ground := Ground.phase }, { on := 4, ground := Ground.phase }, { on := 5, ground := Ground.phase }, { on := 6, ground := Ground.phase }, { on := 7, ground := Ground.phase }, { on := 8, ground := Ground.phase }, { on := 9, ground := Ground.phase }, { on := 10, ground := Ground.phase }], guard := none }) rfl (fun K hK => ?_) ?_
                    · refine step_store27 rfl _ _ rfl _ (lim (addV (addV (mulV v0 v0) (mulV v1 v1)) (timesV (mulV v0 v1) 2))) [0, 0, 0, 0] rfl rfl hn201 rfl rfl ?_
                      have hbel204 := below_setRow hbel202 (Nat.le_refl _) (Ls (lim (addV (addV (mulV v0 v0) (mulV v1 v1)) (timesV (mulV v0 v1) 2))))
                      refine hK.out _ _ (hh200.row _ hz170 hf169 (lim (addV (addV (mulV v0 v0) (mulV v1 v1)) (timesV (mulV v0 v1) 2)))) (fun hh203 => ?_)
                      clear hK K
                      have hn205 := ls_row (cs := Ls (lim (addV (addV (mulV v0 v0) (mulV v1 v1)) (timesV (mulV v0 v1) 2)))) hn201
                      refine wpAnyH_done (by kernel_rfl) ?_ _
                      go_wp2_with fail
                      go_meet
                      exact ⟨_, rfl, (S20.out.below hbel204), hh203.add hz170 hn205⟩
                    exact AllReadyH.nil
                  exact AllReadyH.nil
                exact AllReadyH.nil
              exact AllReadyH.nil
            exact AllReadyH.nil
          exact AllReadyH.nil
        exact AllReadyH.nil
      exact AllReadyH.nil
    case rest =>
      obtain ⟨b206, rfl, s207, hS⟩ := hcut
      have H208 := Lib.hid hS
      have S209 := Lib.hid s207
      clear hS s207
      have N210 := Lib.hid (N.add (N.add (N.mul N0.out N0.out) (N.mul N1.out N1.out)) (N.times (n := 2) (N.mul N0.out N1.out) (by omega) (by omega)))
      go_upto_region 7 with fail
      refine wp_region_held_drew (S := LS w [(b206, lim (addV (addV (mulV v0 v0) (mulV v1 v1)) (timesV (mulV v0 v1) 2)), 27), (b7, lim (mulV (addV v0 v1) (addV v0 v1)), 27), (w.heap.size, lim v0, 24), (w.heap.size + 1, lim v1, 24)]) (by kernel_rfl) H208.out.drew (fun hst211 => ?_)
      have S212 := Lib.hid S209.out.drew
      refine wpAnyH_take (i := 0) (oi := { dst := some 28, op := Op.load 24 (Operand.tmp 2), type := 24, pos := "law.go:126", after := #[], guard := none }) (v := .agg (Ls (lim v0))) rfl (by kernel_rfl) (by kernel_rfl) (by kernel_rfl) (fun _ _ _ h => h) (lload24 (by rfl) _ rfl (w.heap.size) (lim v0) rfl (by simp) rfl) hst211 ?_
      simp only [Act.put, List.setIfInBounds_toArray, List.set_cons_zero, List.set_cons_succ]
      refine wpAnyH_take (i := 2) (oi := { dst := some 30, op := Op.move (Operand.tmp 6), type := 29, pos := "law.go:126", after := #[], guard := none }) (v := .slice A3 32 c4) rfl (by kernel_rfl) (by kernel_rfl) (by kernel_rfl) (fun _ _ _ h => h) (Or.inl ⟨by rfl, fun w' _ => by rfl⟩) hst211 ?_
      simp only [Act.put, List.setIfInBounds_toArray, List.set_cons_zero, List.set_cons_succ]
      refine wpAnyH_take (i := 3) (oi := { dst := some 31, op := Op.move (Operand.tmp 6), type := 29, pos := "law.go:126", after := #[], guard := none }) (v := .slice A3 32 c4) rfl (by kernel_rfl) (by kernel_rfl) (by kernel_rfl) (fun _ _ _ h => h) (Or.inl ⟨by rfl, fun w' _ => by rfl⟩) hst211 ?_
      simp only [Act.put, List.setIfInBounds_toArray, List.set_cons_zero, List.set_cons_succ]
      refine wpAnyH_ready (rs := [1]) (by kernel_rfl) (by simp) ?_
      refine AllReadyH.cons (o := { dst := some 29, op := Op.call { callee := Callee.value (Operand.func 33), args := #[Operand.tmp 28], argTypes := #[27] }, type := 27, pos := "law.go:126", after := #[{ on := 0, ground := Ground.data }], guard := none }) rfl (fun K hK => ?_) ?_
      · go_simp
        refine (cSquare N0.out _).mono ?_
        rintro e w213 ⟨rfl, b⟩
        have N214 := Lib.hid (N.mul N0.out N0.out)
        have S215 := Lib.hid (S212.out.below b)
        refine hK.out _ _ (hst211.call b) (fun hh216 => ?_)
        clear hK K b
        refine wpAnyH_ready (rs := [4]) (by kernel_rfl) (by simp) ?_
        refine AllReadyH.cons (o := { dst := some 32, op := Op.call { callee := Callee.value (Operand.func 30), args := #[Operand.tmp 30, Operand.tmp 31], argTypes := #[29, 29] }, type := 29, pos := "law.go:126", after := #[{ on := 2, ground := Ground.data }, { on := 3, ground := Ground.data }, { on := 1, ground := Ground.chain }], guard := none }) rfl (fun K hK => ?_) ?_
        · go_simp
          refine (rMul _ _ _ S215.out S215.out).mono ?_
          rintro e w217 ⟨A218, c219, rfl, s220, b⟩
          have S221 := Lib.hid (S215.out.below b)
          have S222 := Lib.hid s220
          clear s220
          refine hK.out _ _ (hh216.call b) (fun hh223 => ?_)
          clear hK K b
          refine wpAnyH_ready (rs := [5]) (by kernel_rfl) (by simp) ?_
          refine AllReadyH.cons (o := { dst := some 33, op := Op.call { callee := Callee.value (Operand.func 21), args := #[Operand.tmp 29, Operand.tmp 32], argTypes := #[27, 29] }, type := 4, pos := "law.go:126", after := #[{ on := 1, ground := Ground.data }, { on := 4, ground := Ground.data }, { on := 4, ground := Ground.chain }], guard := none }) rfl (fun K hK => ?_) ?_
          · go_simp
            refine (cIs N214.out _ S222.out (by grind)).mono ?_
            rintro e w224 ⟨rfl, b⟩
            have S225 := Lib.hid (S221.out.below b)
            have S226 := Lib.hid (S222.out.below b)
            refine hK.out _ _ (hh223.call b) (fun hh227 => ?_)
            clear hK K b
            refine wpAnyH_take (i := 6) (oi := { dst := some 34, op := Op.move (Operand.tmp 33), type := 4, pos := "law.go:126", after := #[{ on := 5, ground := Ground.data }, { on := 5, ground := Ground.chain }], guard := none }) (v := .bool true) rfl (by kernel_rfl) (by kernel_rfl) (by kernel_rfl) (fun _ _ _ h => h) (Or.inl ⟨by rfl, fun w' _ => by rfl⟩) hh227 ?_
            simp only [Act.put, List.setIfInBounds_toArray, List.set_cons_zero, List.set_cons_succ]
            refine wpAnyH_take (i := 7) (oi := { dst := some 35, op := Op.build 27 #[], type := 27, pos := "law.go:126", after := #[{ on := 6, ground := Ground.guard }], guard := some (6, true) }) (v := .agg (Ls (lim 0))) rfl (by kernel_rfl) (by kernel_rfl) (by kernel_rfl) (fun _ _ _ h => h) (Or.inl ⟨by rfl, fun w' _ => by kernel_rfl⟩) hh227 ?_
            simp only [Act.put, List.setIfInBounds_toArray, List.set_cons_zero, List.set_cons_succ]
            refine wpAnyH_take (i := 8) (oi := { dst := some 36, op := Op.load 24 (Operand.tmp 2), type := 24, pos := "law.go:126", after := #[{ on := 6, ground := Ground.guard }], guard := some (6, true) }) (v := .agg (Ls (lim v0))) rfl (by kernel_rfl) (by kernel_rfl) (by kernel_rfl) (fun _ _ _ h => h) (lload24 (by rfl) _ rfl (w.heap.size) (lim v0) rfl (by simp) rfl) hh227 ?_
            simp only [Act.put, List.setIfInBounds_toArray, List.set_cons_zero, List.set_cons_succ]
            refine wpAnyH_take (i := 11) (oi := { dst := some 39, op := Op.load 24 (Operand.tmp 2), type := 24, pos := "law.go:126", after := #[{ on := 6, ground := Ground.guard }], guard := some (6, true) }) (v := .agg (Ls (lim v0))) rfl (by kernel_rfl) (by kernel_rfl) (by kernel_rfl) (fun _ _ _ h => h) (lload24 (by rfl) _ rfl (w.heap.size) (lim v0) rfl (by simp) rfl) hh227 ?_
            simp only [Act.put, List.setIfInBounds_toArray, List.set_cons_zero, List.set_cons_succ]
            refine wpAnyH_ready (rs := [9]) (by kernel_rfl) (by simp) ?_
            refine AllReadyH.cons (o := { dst := some 37, op := Op.call { callee := Callee.value (Operand.func 27), args := #[Operand.tmp 35, Operand.tmp 36], argTypes := #[27, 27] }, type := 27, pos := "law.go:126", after := #[{ on := 7, ground := Ground.data }, { on := 8, ground := Ground.data }, { on := 6, ground := Ground.chain }, { on := 6, ground := Ground.guard }], guard := some (6, true) }) rfl (fun K hK => ?_) ?_
            · go_simp
              refine (cSub N.zero N0.out _).mono ?_
              rintro e w228 ⟨rfl, b⟩
              have N229 := Lib.hid (N.sub N.zero N0.out)
              have S230 := Lib.hid (S225.out.below b)
              have S231 := Lib.hid (S226.out.below b)
              refine hK.out _ _ (hh227.call b) (fun hh232 => ?_)
              clear hK K b
              refine wpAnyH_ready (rs := [10]) (by kernel_rfl) (by simp) ?_
              refine AllReadyH.cons (o := { dst := some 38, op := Op.call { callee := Callee.value (Operand.func 33), args := #[Operand.tmp 37], argTypes := #[27] }, type := 27, pos := "law.go:126", after := #[{ on := 9, ground := Ground.data }, { on := 9, ground := Ground.chain }, { on := 6, ground := Ground.guard }], guard := some (6, true) }) rfl (fun K hK => ?_) ?_
              · go_simp
                refine (cSquare N229.out _).mono ?_
                rintro e w233 ⟨rfl, b⟩
                have N234 := Lib.hid (N.mul N229.out N229.out)
                have S235 := Lib.hid (S230.out.below b)
                have S236 := Lib.hid (S231.out.below b)
                refine hK.out _ _ (hh232.call b) (fun hh237 => ?_)
                clear hK K b
                refine wpAnyH_ready (rs := [12]) (by kernel_rfl) (by simp) ?_
                refine AllReadyH.cons (o := { dst := some 40, op := Op.call { callee := Callee.value (Operand.func 33), args := #[Operand.tmp 39], argTypes := #[27] }, type := 27, pos := "law.go:126", after := #[{ on := 11, ground := Ground.data }, { on := 10, ground := Ground.chain }, { on := 6, ground := Ground.guard }], guard := some (6, true) }) rfl (fun K hK => ?_) ?_
                · go_simp
                  refine (cSquare N0.out _).mono ?_
                  rintro e w238 ⟨rfl, b⟩
                  have N239 := Lib.hid (N.mul N0.out N0.out)
                  have S240 := Lib.hid (S235.out.below b)
                  have S241 := Lib.hid (S236.out.below b)
                  refine hK.out _ _ (hh237.call b) (fun hh242 => ?_)
                  clear hK K b
                  refine wpAnyH_ready (rs := [13]) (by kernel_rfl) (by simp) ?_
                  refine AllReadyH.cons (o := { dst := some 41, op := Op.call { callee := Callee.value (Operand.func 38), args := #[Operand.tmp 38, Operand.tmp 40], argTypes := #[27, 27] }, type := 4, pos := "law.go:126", after := #[{ on := 10, ground := Ground.data }, { on := 12, ground := Ground.data }, { on := 12, ground := Ground.chain }, { on := 6, ground := Ground.guard }], guard := some (6, true) }) rfl (fun K hK => ?_) ?_
                  · go_simp
                    refine (cSame N234.out N239.out (by grind) _).mono ?_
                    rintro e w243 ⟨rfl, b⟩
                    have S244 := Lib.hid (S240.out.below b)
                    have S245 := Lib.hid (S241.out.below b)
                    refine hK.out _ _ (hh242.call b) (fun hh246 => ?_)
                    clear hK K b
                    refine wpAnyH_take (i := 14) (oi := { dst := some 42, op := Op.pick (Operand.tmp 34) (Operand.tmp 41) (Operand.const (Value.bool false)), type := 4, pos := "law.go:126", after := #[{ on := 6, ground := Ground.data }, { on := 13, ground := Ground.data }], guard := none }) (v := .bool true) rfl (by kernel_rfl) (by kernel_rfl) (by kernel_rfl) (fun _ _ _ h => h) (Or.inl ⟨by rfl, fun w' _ => by rfl⟩) hh246 ?_
                    simp only [Act.put, List.setIfInBounds_toArray, List.set_cons_zero, List.set_cons_succ]
                    refine wpAnyH_take (i := 15) (oi := { dst := some 43, op := Op.move (Operand.tmp 42), type := 4, pos := "law.go:126", after := #[{ on := 14, ground := Ground.data }, { on := 13, ground := Ground.chain }], guard := none }) (v := .bool true) rfl (by kernel_rfl) (by kernel_rfl) (by kernel_rfl) (fun _ _ _ h => h) (Or.inl ⟨by rfl, fun w' _ => by rfl⟩) hh246 ?_
                    simp only [Act.put, List.setIfInBounds_toArray, List.set_cons_zero, List.set_cons_succ]
                    refine wpAnyH_take (i := 16) (oi := { dst := some 44, op := Op.load 27 (Operand.tmp 7), type := 27, pos := "law.go:126", after := #[{ on := 15, ground := Ground.guard }], guard := some (15, true) }) (v := .agg (Ls (lim (mulV (addV v0 v1) (addV v0 v1))))) rfl (by kernel_rfl) (by kernel_rfl) (by kernel_rfl) (fun _ _ _ h => h) (lload27 (by rfl) _ rfl (b7) (lim (mulV (addV v0 v1) (addV v0 v1))) rfl (by simp) rfl) hh246 ?_
                    simp only [Act.put, List.setIfInBounds_toArray, List.set_cons_zero, List.set_cons_succ]
                    refine wpAnyH_take (i := 17) (oi := { dst := some 45, op := Op.load 27 (Operand.tmp 8), type := 27, pos := "law.go:126", after := #[{ on := 15, ground := Ground.guard }], guard := some (15, true) }) (v := .agg (Ls (lim (addV (addV (mulV v0 v0) (mulV v1 v1)) (timesV (mulV v0 v1) 2))))) rfl (by kernel_rfl) (by kernel_rfl) (by kernel_rfl) (fun _ _ _ h => h) (lload27 (by rfl) _ rfl (b206) (lim (addV (addV (mulV v0 v0) (mulV v1 v1)) (timesV (mulV v0 v1) 2))) rfl (by simp) rfl) hh246 ?_
                    simp only [Act.put, List.setIfInBounds_toArray, List.set_cons_zero, List.set_cons_succ]
                    refine wpAnyH_ready (rs := [18]) (by kernel_rfl) (by simp) ?_
                    refine AllReadyH.cons (o := { dst := some 46, op := Op.call { callee := Callee.value (Operand.func 38), args := #[Operand.tmp 44, Operand.tmp 45], argTypes := #[27, 27] }, type := 4, pos := "law.go:126", after := #[{ on := 16, ground := Ground.data }, { on := 17, ground := Ground.data }, { on := 15, ground := Ground.chain }, { on := 15, ground := Ground.guard }], guard := some (15, true) }) rfl (fun K hK => ?_) ?_
                    · go_simp
                      refine (cSame N13.out N210.out (by grind) _).mono ?_
                      rintro e w247 ⟨rfl, b⟩
                      have S248 := Lib.hid (S244.out.below b)
                      have S249 := Lib.hid (S245.out.below b)
                      refine hK.out _ _ (hh246.call b) (fun hh250 => ?_)
                      clear hK K b
                      refine wpAnyH_take (i := 19) (oi := { dst := some 47, op := Op.pick (Operand.tmp 43) (Operand.tmp 46) (Operand.const (Value.bool false)), type := 4, pos := "law.go:126", after := #[{ on := 15, ground := Ground.data }, { on := 18, ground := Ground.data }], guard := none }) (v := .bool true) rfl (by kernel_rfl) (by kernel_rfl) (by kernel_rfl) (fun _ _ _ h => h) (Or.inl ⟨by rfl, fun w' _ => by rfl⟩) hh250 ?_
                      simp only [Act.put, List.setIfInBounds_toArray, List.set_cons_zero, List.set_cons_succ]
                      refine wpAnyH_take (i := 20) (oi := { dst := some 4, op := Op.assign (Operand.tmp 47), type := 4, pos := "law.go:126", after := #[{ on := 19, ground := Ground.data }, { on := 18, ground := Ground.chain }, { on := 0, ground := Ground.phase }, { on := 1, ground := Ground.phase }, { on := 2, ground := Ground.phase }, { on := 3, ground := Ground.phase }, { on := 4, ground := Ground.phase }, { on := 5, ground := Ground.phase }, { on := 6, ground := Ground.phase }, { on := 7, ground := Ground.phase }, { on := 8, ground := Ground.phase }, { on := 9, ground := Ground.phase }, { on := 10, ground := Ground.phase }, { on := 11, ground := Ground.phase }, { on := 12, ground := Ground.phase }, { on := 13, ground := Ground.phase }, { on := 14, ground := Ground.phase }, { on := 15, ground := Ground.phase }, { on := 16, ground := Ground.phase }, { on := 17, ground := Ground.phase }, { on := 18, ground := Ground.phase }, { on := 19, ground := Ground.phase }], guard := none }) (v := .bool true) rfl (by kernel_rfl) (by kernel_rfl) (by kernel_rfl) (fun _ _ _ h => h) (Or.inl ⟨by rfl, fun w' _ => by rfl⟩) hh250 ?_
                      simp only [Act.put, List.setIfInBounds_toArray, List.set_cons_zero, List.set_cons_succ]
                      refine wpAnyH_done (by kernel_rfl) ?_ _
                      have H251 := Lib.hid hh250
                      go_wp2_with fail
                      go_ret
                      exact ⟨rfl, H251.out.below⟩
                    exact AllReadyH.nil
                  exact AllReadyH.nil
                exact AllReadyH.nil
              exact AllReadyH.nil
            exact AllReadyH.nil
          exact AllReadyH.nil
        exact AllReadyH.nil
      exact AllReadyH.nil

end Go.Proofs.Ytfklojheogidpaa
