import Derived.Test.YtfklojheogidpaaKit3
set_option linter.unusedVariables false
set_option linter.unusedSimpArgs false
namespace Go.Proofs.Ytfklojheogidpaa
open Go.RowKit Go.Proofs.YtfklojheogidpaaW.PrintWords Go.Proofs.YtfklojheogidpaaW.PrintLast Go.Proofs.YtfklojheogidpaaW.PrintMore

set_option maxHeartbeats 4000000 in
set_option maxRecDepth 100000 in
theorem walk_FieldInverts (w : World) (l0 : List Int)
    (hl0 : l0.length = 4) (hw0 : ∀ x ∈ l0, 0 ≤ x ∧ x ≤ 18446744073709551615) :
    Calls Try.prog 7 #[.agg (nums .u64 l0).toArray] w fun e w' => e = .returned (.bool true) ∧ Below w.heap.size w w' := by
  obtain ⟨v0, r0, e0⟩ := arr_E l0 hl0 hw0
  have N0 := Lib.hid (N.of r0)
  rw [e0]
  clear e0 r0 hl0 hw0
  by_cases hz : R v0 0
  · skip
    go_enter Try.func7, Try.ntmps7
    go_upto_region 0 with fail
    go_cut [1, 2] (fun s1 s2 wx => s1 = .pointer (some ⟨w.heap.size, 0, none⟩) ∧ s2 = .bool false ∧ LS w [(w.heap.size, lim v0, 24)] wx)
    case first =>
      go_wp2_with fail
      go_meet
      exact ⟨rfl, rfl, LS.one _⟩
    case rest =>
      obtain ⟨rfl, rfl, hS⟩ := hcut
      have H0 := Lib.hid hS
      have HW := Lib.hid hS.below
      clear hS
      go_wp2_with fail
      refine (awake_any _).mono ?_
      rintro e w1 ⟨rfl, b⟩
      have H1 := Lib.hid (H0.out.call b)
      clear b H0
      go_upto_region 4 with fail
      go_upto_region 5 with (first | (refine load24w (by rfl) _ rfl (w.heap.size) (lim v0) rfl (H1.out.get _ _ _ (by simp)) rfl ?_))
      refine (cNum N0.out _).mono ?_
      rintro e w2 ⟨A3, c4, rfl, s5, b⟩
      have S6 := Lib.hid s5
      clear s5
      have H7 := Lib.hid (H1.out.call b)
      clear b H1
      go_upto_region 5 with (first | (refine load24w (by rfl) _ rfl (w.heap.size) (lim v0) rfl (H7.out.get _ _ _ (by simp)) rfl ?_))
      go_upto_region 6 with (first | (refine load24w (by rfl) _ rfl (w.heap.size) (lim v0) rfl (H7.out.get _ _ _ (by simp)) rfl ?_))
      refine (cInvert N0.out _).mono ?_
      rintro e w8 ⟨rfl, b⟩
      have N9 := Lib.hid (N.inv N0.out)
      have S10 := Lib.hid (S6.out.below b)
      have H11 := Lib.hid (H7.out.call b)
      clear b H7
      have HN12 := Lib.hid H11.out.new
      have HP13 := Lib.hid (H11.out.put (lim (invV v0)))
      have S14 := Lib.hid (S10.out.below (put_below w8 (lim (invV v0))))
      go_upto_region 6 with (first | (refine store27 rfl _ _ rfl w8.heap.size (lim (invV v0)) [0, 0, 0, 0] rfl rfl HN12.out rfl rfl ?_))
      clear H11
      go_upto_region 7 with (first | (refine load24w (by rfl) _ rfl (w.heap.size) (lim v0) rfl (HP13.out.get _ _ _ (by simp)) rfl ?_) | (refine load27w (by rfl) _ rfl (w8.heap.size) (lim (invV v0)) rfl (HP13.out.get _ _ _ (by simp)) rfl ?_))
      refine (cMul N9.out N0.out _).mono ?_
      rintro e w15 ⟨rfl, b⟩
      have N16 := Lib.hid (N.mul N9.out N0.out)
      have S17 := Lib.hid (S14.out.below b)
      have H18 := Lib.hid (HP13.out.call b)
      clear b HP13
      have HN19 := Lib.hid H18.out.new
      have HP20 := Lib.hid (H18.out.put (lim (mulV (invV v0) v0)))
      have S21 := Lib.hid (S17.out.below (put_below w15 (lim (mulV (invV v0) v0))))
      go_upto_region 7 with (first | (refine store27 rfl _ _ rfl w15.heap.size (lim (mulV (invV v0) v0)) [0, 0, 0, 0] rfl rfl HN19.out rfl rfl ?_))
      clear H18
      go_upto_region 8 with (first | (refine load24w (by rfl) _ rfl (w.heap.size) (lim v0) rfl (HP20.out.get _ _ _ (by simp)) rfl ?_) | (refine load27w (by rfl) _ rfl (w8.heap.size) (lim (invV v0)) rfl (HP20.out.get _ _ _ (by simp)) rfl ?_) | (refine load27w (by rfl) _ rfl (w15.heap.size) (lim (mulV (invV v0) v0)) rfl (HP20.out.get _ _ _ (by simp)) rfl ?_))
      refine (rSmall 0 (by omega) (by omega) _).mono ?_
      rintro e w22 ⟨A23, c24, rfl, s25, b⟩
      have S26 := Lib.hid (S21.out.below b)
      have S27 := Lib.hid s25
      clear s25
      have H28 := Lib.hid (HP20.out.call b)
      clear b HP20
      go_upto_region 8 with (first | (refine load24w (by rfl) _ rfl (w.heap.size) (lim v0) rfl (H28.out.get _ _ _ (by simp)) rfl ?_) | (refine load27w (by rfl) _ rfl (w8.heap.size) (lim (invV v0)) rfl (H28.out.get _ _ _ (by simp)) rfl ?_) | (refine load27w (by rfl) _ rfl (w15.heap.size) (lim (mulV (invV v0) v0)) rfl (H28.out.get _ _ _ (by simp)) rfl ?_))
      refine (rSameT _ S26.out S27.out hz).mono ?_
      rintro e w29 ⟨rfl, b⟩
      have S30 := Lib.hid (S26.out.below b)
      have S31 := Lib.hid (S27.out.below b)
      have H32 := Lib.hid (H28.out.call b)
      clear b H28
      go_upto_region 8 with (first | (refine load24w (by rfl) _ rfl (w.heap.size) (lim v0) rfl (H32.out.get _ _ _ (by simp)) rfl ?_) | (refine load27w (by rfl) _ rfl (w8.heap.size) (lim (invV v0)) rfl (H32.out.get _ _ _ (by simp)) rfl ?_) | (refine load27w (by rfl) _ rfl (w15.heap.size) (lim (mulV (invV v0) v0)) rfl (H32.out.get _ _ _ (by simp)) rfl ?_))
      go_upto_region 8 with fail
      refine wp_region_held_drew (S := LS w [(w15.heap.size, lim (mulV (invV v0) v0), 27), (w8.heap.size, lim (invV v0), 27), (w.heap.size, lim v0, 24)]) (by kernel_rfl) H32.out.drew (fun hst33 => ?_)
      have S34 := Lib.hid S30.out.drew
      have S35 := Lib.hid S31.out.drew
      refine wpAnyH_take (i := 0) (oi := { dst := some 21, op := Op.load 27 (Operand.tmp 5), type := 27, pos := "law.go:77", after := #[], guard := none }) (v := .agg (Ls (lim (invV v0)))) rfl (by kernel_rfl) (by kernel_rfl) (by kernel_rfl) (fun _ _ _ h => h) (lload27 (by rfl) _ rfl (w8.heap.size) (lim (invV v0)) rfl (by simp) rfl) hst33 ?_
      simp only [Act.put, List.setIfInBounds_toArray, List.set_cons_zero, List.set_cons_succ]
      refine wpAnyH_take (i := 1) (oi := { dst := some 22, op := Op.move (Operand.tmp 4), type := 29, pos := "law.go:77", after := #[], guard := none }) (v := .slice A3 32 c4) rfl (by kernel_rfl) (by kernel_rfl) (by kernel_rfl) (fun _ _ _ h => h) (Or.inl ⟨by rfl, fun w' _ => by rfl⟩) hst33 ?_
      simp only [Act.put, List.setIfInBounds_toArray, List.set_cons_zero, List.set_cons_succ]
      refine wpAnyH_ready (rs := [2]) (by kernel_rfl) (by simp) ?_
      refine AllReadyH.cons (o := { dst := some 23, op := Op.call { callee := Callee.value (Operand.func 36), args := #[Operand.tmp 22], argTypes := #[29] }, type := 29, pos := "law.go:77", after := #[{ on := 1, ground := Ground.data }], guard := none }) rfl (fun K hK => ?_) ?_
      · go_simp
        refine (rPower _ _ S34.out).mono ?_
        rintro e w36 ⟨A37, c38, rfl, s39, b⟩
        have S40 := Lib.hid (S34.out.below b)
        have S41 := Lib.hid (S35.out.below b)
        have S42 := Lib.hid s39
        clear s39
        refine hK.out _ _ (hst33.call b) (fun hh43 => ?_)
        clear hK K b
        refine wpAnyH_ready (rs := [3]) (by kernel_rfl) (by simp) ?_
        refine AllReadyH.cons (o := { dst := some 24, op := Op.call { callee := Callee.value (Operand.func 21), args := #[Operand.tmp 21, Operand.tmp 23], argTypes := #[27, 29] }, type := 4, pos := "law.go:77", after := #[{ on := 0, ground := Ground.data }, { on := 2, ground := Ground.data }, { on := 2, ground := Ground.chain }], guard := none }) rfl (fun K hK => ?_) ?_
        · go_simp
          refine (cIs N9.out _ S42.out (by grind)).mono ?_
          rintro e w44 ⟨rfl, b⟩
          have S45 := Lib.hid (S40.out.below b)
          have S46 := Lib.hid (S41.out.below b)
          have S47 := Lib.hid (S42.out.below b)
          refine hK.out _ _ (hh43.call b) (fun hh48 => ?_)
          clear hK K b
          refine wpAnyH_take (i := 4) (oi := { dst := some 25, op := Op.move (Operand.tmp 24), type := 4, pos := "law.go:77", after := #[{ on := 3, ground := Ground.data }, { on := 3, ground := Ground.chain }], guard := none }) (v := .bool true) rfl (by kernel_rfl) (by kernel_rfl) (by kernel_rfl) (fun _ _ _ h => h) (Or.inl ⟨by rfl, fun w' _ => by rfl⟩) hh48 ?_
          simp only [Act.put, List.setIfInBounds_toArray, List.set_cons_zero, List.set_cons_succ]
          refine wpAnyH_take (i := 5) (oi := { dst := some 26, op := Op.move (Operand.tmp 7), type := 4, pos := "law.go:77", after := #[{ on := 4, ground := Ground.guard }], guard := some (4, true) }) (v := .bool true) rfl (by kernel_rfl) (by kernel_rfl) (by kernel_rfl) (fun _ _ _ h => h) (Or.inl ⟨by rfl, fun w' _ => by rfl⟩) hh48 ?_
          simp only [Act.put, List.setIfInBounds_toArray, List.set_cons_zero, List.set_cons_succ]
          refine wpAnyH_take (i := 6) (oi := { dst := some 27, op := Op.move (Operand.tmp 26), type := 4, pos := "law.go:77", after := #[{ on := 5, ground := Ground.data }, { on := 4, ground := Ground.chain }, { on := 4, ground := Ground.guard }], guard := some (4, true) }) (v := .bool true) rfl (by kernel_rfl) (by kernel_rfl) (by kernel_rfl) (fun _ _ _ h => h) (Or.inl ⟨by rfl, fun w' _ => by rfl⟩) hh48 ?_
          simp only [Act.put, List.setIfInBounds_toArray, List.set_cons_zero, List.set_cons_succ]
          refine wpAnyH_take (i := 7) (oi := { dst := some 28, op := Op.load 27 (Operand.tmp 6), type := 27, pos := "law.go:77", after := #[{ on := 6, ground := Ground.guard }], guard := some (6, true) }) (v := .agg (Ls (lim (mulV (invV v0) v0)))) rfl (by kernel_rfl) (by kernel_rfl) (by kernel_rfl) (fun _ _ _ h => h) (lload27 (by rfl) _ rfl (w15.heap.size) (lim (mulV (invV v0) v0)) rfl (by simp) rfl) hh48 ?_
          simp only [Act.put, List.setIfInBounds_toArray, List.set_cons_zero, List.set_cons_succ]
          refine wpAnyH_ready (rs := [8]) (by kernel_rfl) (by simp) ?_
          refine AllReadyH.cons (o := { dst := some 29, op := Op.call { callee := Callee.value (Operand.func 32), args := #[Operand.const (Value.int IntKind.i64 0)], argTypes := #[3] }, type := 29, pos := "law.go:77", after := #[{ on := 6, ground := Ground.chain }, { on := 6, ground := Ground.guard }], guard := some (6, true) }) rfl (fun K hK => ?_) ?_
          · go_simp
            refine (rSmall 0 (by omega) (by omega) _).mono ?_
            rintro e w49 ⟨A50, c51, rfl, s52, b⟩
            have S53 := Lib.hid (S45.out.below b)
            have S54 := Lib.hid (S46.out.below b)
            have S55 := Lib.hid (S47.out.below b)
            have S56 := Lib.hid s52
            clear s52
            refine hK.out _ _ (hh48.call b) (fun hh57 => ?_)
            clear hK K b
            refine wpAnyH_ready (rs := [9]) (by kernel_rfl) (by simp) ?_
            refine AllReadyH.cons (o := { dst := some 30, op := Op.call { callee := Callee.value (Operand.func 21), args := #[Operand.tmp 28, Operand.tmp 29], argTypes := #[27, 29] }, type := 4, pos := "law.go:77", after := #[{ on := 7, ground := Ground.data }, { on := 8, ground := Ground.data }, { on := 8, ground := Ground.chain }, { on := 6, ground := Ground.guard }], guard := some (6, true) }) rfl (fun K hK => ?_) ?_
            · go_simp
              refine (cIsR N16.out _ S56.out (zero_R _ hz)).mono ?_
              rintro e w58 ⟨rfl, b⟩
              have S59 := Lib.hid (S53.out.below b)
              have S60 := Lib.hid (S54.out.below b)
              have S61 := Lib.hid (S55.out.below b)
              have S62 := Lib.hid (S56.out.below b)
              refine hK.out _ _ (hh57.call b) (fun hh63 => ?_)
              clear hK K b
              refine wpAnyH_take (i := 10) (oi := { dst := some 31, op := Op.pick (Operand.tmp 27) (Operand.tmp 30) (Operand.const (Value.bool false)), type := 4, pos := "law.go:77", after := #[{ on := 6, ground := Ground.data }, { on := 9, ground := Ground.data }, { on := 4, ground := Ground.guard }], guard := some (4, true) }) (v := .bool true) rfl (by kernel_rfl) (by kernel_rfl) (by kernel_rfl) (fun _ _ _ h => h) (Or.inl ⟨by rfl, fun w' _ => by rfl⟩) hh63 ?_
              simp only [Act.put, List.setIfInBounds_toArray, List.set_cons_zero, List.set_cons_succ]
              refine wpAnyH_take (i := 11) (oi := { dst := some 32, op := Op.move (Operand.tmp 31), type := 4, pos := "law.go:77", after := #[{ on := 10, ground := Ground.data }, { on := 9, ground := Ground.chain }, { on := 4, ground := Ground.guard }], guard := some (4, true) }) (v := .bool true) rfl (by kernel_rfl) (by kernel_rfl) (by kernel_rfl) (fun _ _ _ h => h) (Or.inl ⟨by rfl, fun w' _ => by rfl⟩) hh63 ?_
              simp only [Act.put, List.setIfInBounds_toArray, List.set_cons_zero, List.set_cons_succ]
              refine wpAnyH_take (i := 12) (oi := { dst := some 33, op := Op.move (Operand.tmp 7), type := 4, pos := "law.go:77", after := #[{ on := 11, ground := Ground.guard }], guard := some (11, false) }) (v := undef) rfl (by kernel_rfl) (by kernel_rfl) (by kernel_rfl) (fun _ _ _ h => h) (Or.inr ⟨by rfl, rfl⟩) hh63 ?_
              simp only [Act.put, List.setIfInBounds_toArray, List.set_cons_zero, List.set_cons_succ]
              refine wpAnyH_take (i := 13) (oi := { dst := some 34, op := Op.unOp UnOp.not 4 (Operand.tmp 33), type := 4, pos := "law.go:77", after := #[{ on := 12, ground := Ground.data }, { on := 11, ground := Ground.guard }], guard := some (11, false) }) (v := undef) rfl (by kernel_rfl) (by kernel_rfl) (by kernel_rfl) (fun _ _ _ h => h) (Or.inr ⟨by rfl, rfl⟩) hh63 ?_
              simp only [Act.put, List.setIfInBounds_toArray, List.set_cons_zero, List.set_cons_succ]
              refine wpAnyH_take (i := 14) (oi := { dst := some 35, op := Op.move (Operand.tmp 34), type := 4, pos := "law.go:77", after := #[{ on := 13, ground := Ground.data }, { on := 11, ground := Ground.chain }, { on := 11, ground := Ground.guard }], guard := some (11, false) }) (v := undef) rfl (by kernel_rfl) (by kernel_rfl) (by kernel_rfl) (fun _ _ _ h => h) (Or.inr ⟨by rfl, rfl⟩) hh63 ?_
              simp only [Act.put, List.setIfInBounds_toArray, List.set_cons_zero, List.set_cons_succ]
              refine wpAnyH_take (i := 15) (oi := { dst := some 36, op := Op.load 27 (Operand.tmp 6), type := 27, pos := "law.go:77", after := #[{ on := 14, ground := Ground.guard }], guard := some (14, true) }) (v := undef) rfl (by kernel_rfl) (by kernel_rfl) (by kernel_rfl) (fun _ _ _ h => h) (Or.inr ⟨by rfl, rfl⟩) hh63 ?_
              simp only [Act.put, List.setIfInBounds_toArray, List.set_cons_zero, List.set_cons_succ]
              refine wpAnyH_take (i := 16) (oi := { dst := some 37, op := Op.call { callee := Callee.value (Operand.func 32), args := #[Operand.const (Value.int IntKind.i64 1)], argTypes := #[3] }, type := 29, pos := "law.go:77", after := #[{ on := 14, ground := Ground.chain }, { on := 14, ground := Ground.guard }], guard := some (14, true) }) (v := undef) rfl (by kernel_rfl) (by kernel_rfl) (by kernel_rfl) (fun _ _ _ h => h) (Or.inr ⟨by rfl, rfl⟩) hh63 ?_
              simp only [Act.put, List.setIfInBounds_toArray, List.set_cons_zero, List.set_cons_succ]
              refine wpAnyH_take (i := 17) (oi := { dst := some 38, op := Op.call { callee := Callee.value (Operand.func 21), args := #[Operand.tmp 36, Operand.tmp 37], argTypes := #[27, 29] }, type := 4, pos := "law.go:77", after := #[{ on := 15, ground := Ground.data }, { on := 16, ground := Ground.data }, { on := 16, ground := Ground.chain }, { on := 14, ground := Ground.guard }], guard := some (14, true) }) (v := undef) rfl (by kernel_rfl) (by kernel_rfl) (by kernel_rfl) (fun _ _ _ h => h) (Or.inr ⟨by rfl, rfl⟩) hh63 ?_
              simp only [Act.put, List.setIfInBounds_toArray, List.set_cons_zero, List.set_cons_succ]
              refine wpAnyH_take (i := 18) (oi := { dst := some 39, op := Op.pick (Operand.tmp 35) (Operand.tmp 38) (Operand.const (Value.bool false)), type := 4, pos := "law.go:77", after := #[{ on := 14, ground := Ground.data }, { on := 17, ground := Ground.data }, { on := 11, ground := Ground.guard }], guard := some (11, false) }) (v := undef) rfl (by kernel_rfl) (by kernel_rfl) (by kernel_rfl) (fun _ _ _ h => h) (Or.inr ⟨by rfl, rfl⟩) hh63 ?_
              simp only [Act.put, List.setIfInBounds_toArray, List.set_cons_zero, List.set_cons_succ]
              refine wpAnyH_take (i := 19) (oi := { dst := some 40, op := Op.pick (Operand.tmp 32) (Operand.const (Value.bool true)) (Operand.tmp 39), type := 4, pos := "law.go:77", after := #[{ on := 11, ground := Ground.data }, { on := 18, ground := Ground.data }, { on := 4, ground := Ground.guard }], guard := some (4, true) }) (v := .bool true) rfl (by kernel_rfl) (by kernel_rfl) (by kernel_rfl) (fun _ _ _ h => h) (Or.inl ⟨by rfl, fun w' _ => by rfl⟩) hh63 ?_
              simp only [Act.put, List.setIfInBounds_toArray, List.set_cons_zero, List.set_cons_succ]
              refine wpAnyH_take (i := 20) (oi := { dst := some 41, op := Op.pick (Operand.tmp 25) (Operand.tmp 40) (Operand.const (Value.bool false)), type := 4, pos := "law.go:77", after := #[{ on := 4, ground := Ground.data }, { on := 19, ground := Ground.data }], guard := none }) (v := .bool true) rfl (by kernel_rfl) (by kernel_rfl) (by kernel_rfl) (fun _ _ _ h => h) (Or.inl ⟨by rfl, fun w' _ => by rfl⟩) hh63 ?_
              simp only [Act.put, List.setIfInBounds_toArray, List.set_cons_zero, List.set_cons_succ]
              refine wpAnyH_take (i := 21) (oi := { dst := some 2, op := Op.assign (Operand.tmp 41), type := 4, pos := "law.go:77", after := #[{ on := 20, ground := Ground.data }, { on := 17, ground := Ground.chain }, { on := 0, ground := Ground.phase }, { on := 1, ground := Ground.phase }, { on := 2, ground := Ground.phase }, { on := 3, ground := Ground.phase }, { on := 4, ground := Ground.phase }, { on := 5, ground := Ground.phase }, { on := 6, ground := Ground.phase }, { on := 7, ground := Ground.phase }, { on := 8, ground := Ground.phase }, { on := 9, ground := Ground.phase }, { on := 10, ground := Ground.phase }, { on := 11, ground := Ground.phase }, { on := 12, ground := Ground.phase }, { on := 13, ground := Ground.phase }, { on := 14, ground := Ground.phase }, { on := 15, ground := Ground.phase }, { on := 16, ground := Ground.phase }, { on := 17, ground := Ground.phase }, { on := 18, ground := Ground.phase }, { on := 19, ground := Ground.phase }, { on := 20, ground := Ground.phase }], guard := none }) (v := .bool true) rfl (by kernel_rfl) (by kernel_rfl) (by kernel_rfl) (fun _ _ _ h => h) (Or.inl ⟨by rfl, fun w' _ => by rfl⟩) hh63 ?_
              simp only [Act.put, List.setIfInBounds_toArray, List.set_cons_zero, List.set_cons_succ]
              refine wpAnyH_done (by kernel_rfl) ?_ _
              have H64 := Lib.hid hh63
              go_wp2_with fail
              go_ret
              exact ⟨rfl, H64.out.below⟩
            exact AllReadyH.nil
          exact AllReadyH.nil
        exact AllReadyH.nil
      exact AllReadyH.nil
  · skip
    go_enter Try.func7, Try.ntmps7
    go_upto_region 0 with fail
    go_cut [1, 2] (fun s1 s2 wx => s1 = .pointer (some ⟨w.heap.size, 0, none⟩) ∧ s2 = .bool false ∧ LS w [(w.heap.size, lim v0, 24)] wx)
    case first =>
      go_wp2_with fail
      go_meet
      exact ⟨rfl, rfl, LS.one _⟩
    case rest =>
      obtain ⟨rfl, rfl, hS⟩ := hcut
      have H0 := Lib.hid hS
      have HW := Lib.hid hS.below
      clear hS
      go_wp2_with fail
      refine (awake_any _).mono ?_
      rintro e w1 ⟨rfl, b⟩
      have H1 := Lib.hid (H0.out.call b)
      clear b H0
      go_upto_region 4 with fail
      go_upto_region 5 with (first | (refine load24w (by rfl) _ rfl (w.heap.size) (lim v0) rfl (H1.out.get _ _ _ (by simp)) rfl ?_))
      refine (cNum N0.out _).mono ?_
      rintro e w2 ⟨A3, c4, rfl, s5, b⟩
      have S6 := Lib.hid s5
      clear s5
      have H7 := Lib.hid (H1.out.call b)
      clear b H1
      go_upto_region 5 with (first | (refine load24w (by rfl) _ rfl (w.heap.size) (lim v0) rfl (H7.out.get _ _ _ (by simp)) rfl ?_))
      go_upto_region 6 with (first | (refine load24w (by rfl) _ rfl (w.heap.size) (lim v0) rfl (H7.out.get _ _ _ (by simp)) rfl ?_))
      refine (cInvert N0.out _).mono ?_
      rintro e w8 ⟨rfl, b⟩
      have N9 := Lib.hid (N.inv N0.out)
      have S10 := Lib.hid (S6.out.below b)
      have H11 := Lib.hid (H7.out.call b)
      clear b H7
      have HN12 := Lib.hid H11.out.new
      have HP13 := Lib.hid (H11.out.put (lim (invV v0)))
      have S14 := Lib.hid (S10.out.below (put_below w8 (lim (invV v0))))
      go_upto_region 6 with (first | (refine store27 rfl _ _ rfl w8.heap.size (lim (invV v0)) [0, 0, 0, 0] rfl rfl HN12.out rfl rfl ?_))
      clear H11
      go_upto_region 7 with (first | (refine load24w (by rfl) _ rfl (w.heap.size) (lim v0) rfl (HP13.out.get _ _ _ (by simp)) rfl ?_) | (refine load27w (by rfl) _ rfl (w8.heap.size) (lim (invV v0)) rfl (HP13.out.get _ _ _ (by simp)) rfl ?_))
      refine (cMul N9.out N0.out _).mono ?_
      rintro e w15 ⟨rfl, b⟩
      have N16 := Lib.hid (N.mul N9.out N0.out)
      have S17 := Lib.hid (S14.out.below b)
      have H18 := Lib.hid (HP13.out.call b)
      clear b HP13
      have HN19 := Lib.hid H18.out.new
      have HP20 := Lib.hid (H18.out.put (lim (mulV (invV v0) v0)))
      have S21 := Lib.hid (S17.out.below (put_below w15 (lim (mulV (invV v0) v0))))
      go_upto_region 7 with (first | (refine store27 rfl _ _ rfl w15.heap.size (lim (mulV (invV v0) v0)) [0, 0, 0, 0] rfl rfl HN19.out rfl rfl ?_))
      clear H18
      go_upto_region 8 with (first | (refine load24w (by rfl) _ rfl (w.heap.size) (lim v0) rfl (HP20.out.get _ _ _ (by simp)) rfl ?_) | (refine load27w (by rfl) _ rfl (w8.heap.size) (lim (invV v0)) rfl (HP20.out.get _ _ _ (by simp)) rfl ?_) | (refine load27w (by rfl) _ rfl (w15.heap.size) (lim (mulV (invV v0) v0)) rfl (HP20.out.get _ _ _ (by simp)) rfl ?_))
      refine (rSmall 0 (by omega) (by omega) _).mono ?_
      rintro e w22 ⟨A23, c24, rfl, s25, b⟩
      have S26 := Lib.hid (S21.out.below b)
      have S27 := Lib.hid s25
      clear s25
      have H28 := Lib.hid (HP20.out.call b)
      clear b HP20
      go_upto_region 8 with (first | (refine load24w (by rfl) _ rfl (w.heap.size) (lim v0) rfl (H28.out.get _ _ _ (by simp)) rfl ?_) | (refine load27w (by rfl) _ rfl (w8.heap.size) (lim (invV v0)) rfl (H28.out.get _ _ _ (by simp)) rfl ?_) | (refine load27w (by rfl) _ rfl (w15.heap.size) (lim (mulV (invV v0) v0)) rfl (H28.out.get _ _ _ (by simp)) rfl ?_))
      refine (rSameF _ S26.out S27.out hz).mono ?_
      rintro e w29 ⟨rfl, b⟩
      have S30 := Lib.hid (S26.out.below b)
      have S31 := Lib.hid (S27.out.below b)
      have H32 := Lib.hid (H28.out.call b)
      clear b H28
      go_upto_region 8 with (first | (refine load24w (by rfl) _ rfl (w.heap.size) (lim v0) rfl (H32.out.get _ _ _ (by simp)) rfl ?_) | (refine load27w (by rfl) _ rfl (w8.heap.size) (lim (invV v0)) rfl (H32.out.get _ _ _ (by simp)) rfl ?_) | (refine load27w (by rfl) _ rfl (w15.heap.size) (lim (mulV (invV v0) v0)) rfl (H32.out.get _ _ _ (by simp)) rfl ?_))
      go_upto_region 8 with fail
      refine wp_region_held_drew (S := LS w [(w15.heap.size, lim (mulV (invV v0) v0), 27), (w8.heap.size, lim (invV v0), 27), (w.heap.size, lim v0, 24)]) (by kernel_rfl) H32.out.drew (fun hst33 => ?_)
      have S34 := Lib.hid S30.out.drew
      have S35 := Lib.hid S31.out.drew
      refine wpAnyH_take (i := 0) (oi := { dst := some 21, op := Op.load 27 (Operand.tmp 5), type := 27, pos := "law.go:77", after := #[], guard := none }) (v := .agg (Ls (lim (invV v0)))) rfl (by kernel_rfl) (by kernel_rfl) (by kernel_rfl) (fun _ _ _ h => h) (lload27 (by rfl) _ rfl (w8.heap.size) (lim (invV v0)) rfl (by simp) rfl) hst33 ?_
      simp only [Act.put, List.setIfInBounds_toArray, List.set_cons_zero, List.set_cons_succ]
      refine wpAnyH_take (i := 1) (oi := { dst := some 22, op := Op.move (Operand.tmp 4), type := 29, pos := "law.go:77", after := #[], guard := none }) (v := .slice A3 32 c4) rfl (by kernel_rfl) (by kernel_rfl) (by kernel_rfl) (fun _ _ _ h => h) (Or.inl ⟨by rfl, fun w' _ => by rfl⟩) hst33 ?_
      simp only [Act.put, List.setIfInBounds_toArray, List.set_cons_zero, List.set_cons_succ]
      refine wpAnyH_ready (rs := [2]) (by kernel_rfl) (by simp) ?_
      refine AllReadyH.cons (o := { dst := some 23, op := Op.call { callee := Callee.value (Operand.func 36), args := #[Operand.tmp 22], argTypes := #[29] }, type := 29, pos := "law.go:77", after := #[{ on := 1, ground := Ground.data }], guard := none }) rfl (fun K hK => ?_) ?_
      · go_simp
        refine (rPower _ _ S34.out).mono ?_
        rintro e w36 ⟨A37, c38, rfl, s39, b⟩
        have S40 := Lib.hid (S34.out.below b)
        have S41 := Lib.hid (S35.out.below b)
        have S42 := Lib.hid s39
        clear s39
        refine hK.out _ _ (hst33.call b) (fun hh43 => ?_)
        clear hK K b
        refine wpAnyH_ready (rs := [3]) (by kernel_rfl) (by simp) ?_
        refine AllReadyH.cons (o := { dst := some 24, op := Op.call { callee := Callee.value (Operand.func 21), args := #[Operand.tmp 21, Operand.tmp 23], argTypes := #[27, 29] }, type := 4, pos := "law.go:77", after := #[{ on := 0, ground := Ground.data }, { on := 2, ground := Ground.data }, { on := 2, ground := Ground.chain }], guard := none }) rfl (fun K hK => ?_) ?_
        · go_simp
          refine (cIs N9.out _ S42.out (by grind)).mono ?_
          rintro e w44 ⟨rfl, b⟩
          have S45 := Lib.hid (S40.out.below b)
          have S46 := Lib.hid (S41.out.below b)
          have S47 := Lib.hid (S42.out.below b)
          refine hK.out _ _ (hh43.call b) (fun hh48 => ?_)
          clear hK K b
          refine wpAnyH_take (i := 4) (oi := { dst := some 25, op := Op.move (Operand.tmp 24), type := 4, pos := "law.go:77", after := #[{ on := 3, ground := Ground.data }, { on := 3, ground := Ground.chain }], guard := none }) (v := .bool true) rfl (by kernel_rfl) (by kernel_rfl) (by kernel_rfl) (fun _ _ _ h => h) (Or.inl ⟨by rfl, fun w' _ => by rfl⟩) hh48 ?_
          simp only [Act.put, List.setIfInBounds_toArray, List.set_cons_zero, List.set_cons_succ]
          refine wpAnyH_take (i := 5) (oi := { dst := some 26, op := Op.move (Operand.tmp 7), type := 4, pos := "law.go:77", after := #[{ on := 4, ground := Ground.guard }], guard := some (4, true) }) (v := .bool false) rfl (by kernel_rfl) (by kernel_rfl) (by kernel_rfl) (fun _ _ _ h => h) (Or.inl ⟨by rfl, fun w' _ => by rfl⟩) hh48 ?_
          simp only [Act.put, List.setIfInBounds_toArray, List.set_cons_zero, List.set_cons_succ]
          refine wpAnyH_take (i := 6) (oi := { dst := some 27, op := Op.move (Operand.tmp 26), type := 4, pos := "law.go:77", after := #[{ on := 5, ground := Ground.data }, { on := 4, ground := Ground.chain }, { on := 4, ground := Ground.guard }], guard := some (4, true) }) (v := .bool false) rfl (by kernel_rfl) (by kernel_rfl) (by kernel_rfl) (fun _ _ _ h => h) (Or.inl ⟨by rfl, fun w' _ => by rfl⟩) hh48 ?_
          simp only [Act.put, List.setIfInBounds_toArray, List.set_cons_zero, List.set_cons_succ]
          refine wpAnyH_take (i := 7) (oi := { dst := some 28, op := Op.load 27 (Operand.tmp 6), type := 27, pos := "law.go:77", after := #[{ on := 6, ground := Ground.guard }], guard := some (6, true) }) (v := undef) rfl (by kernel_rfl) (by kernel_rfl) (by kernel_rfl) (fun _ _ _ h => h) (Or.inr ⟨by rfl, rfl⟩) hh48 ?_
          simp only [Act.put, List.setIfInBounds_toArray, List.set_cons_zero, List.set_cons_succ]
          refine wpAnyH_take (i := 8) (oi := { dst := some 29, op := Op.call { callee := Callee.value (Operand.func 32), args := #[Operand.const (Value.int IntKind.i64 0)], argTypes := #[3] }, type := 29, pos := "law.go:77", after := #[{ on := 6, ground := Ground.chain }, { on := 6, ground := Ground.guard }], guard := some (6, true) }) (v := undef) rfl (by kernel_rfl) (by kernel_rfl) (by kernel_rfl) (fun _ _ _ h => h) (Or.inr ⟨by rfl, rfl⟩) hh48 ?_
          simp only [Act.put, List.setIfInBounds_toArray, List.set_cons_zero, List.set_cons_succ]
          refine wpAnyH_take (i := 9) (oi := { dst := some 30, op := Op.call { callee := Callee.value (Operand.func 21), args := #[Operand.tmp 28, Operand.tmp 29], argTypes := #[27, 29] }, type := 4, pos := "law.go:77", after := #[{ on := 7, ground := Ground.data }, { on := 8, ground := Ground.data }, { on := 8, ground := Ground.chain }, { on := 6, ground := Ground.guard }], guard := some (6, true) }) (v := undef) rfl (by kernel_rfl) (by kernel_rfl) (by kernel_rfl) (fun _ _ _ h => h) (Or.inr ⟨by rfl, rfl⟩) hh48 ?_
          simp only [Act.put, List.setIfInBounds_toArray, List.set_cons_zero, List.set_cons_succ]
          refine wpAnyH_take (i := 10) (oi := { dst := some 31, op := Op.pick (Operand.tmp 27) (Operand.tmp 30) (Operand.const (Value.bool false)), type := 4, pos := "law.go:77", after := #[{ on := 6, ground := Ground.data }, { on := 9, ground := Ground.data }, { on := 4, ground := Ground.guard }], guard := some (4, true) }) (v := .bool false) rfl (by kernel_rfl) (by kernel_rfl) (by kernel_rfl) (fun _ _ _ h => h) (Or.inl ⟨by rfl, fun w' _ => by rfl⟩) hh48 ?_
          simp only [Act.put, List.setIfInBounds_toArray, List.set_cons_zero, List.set_cons_succ]
          refine wpAnyH_take (i := 11) (oi := { dst := some 32, op := Op.move (Operand.tmp 31), type := 4, pos := "law.go:77", after := #[{ on := 10, ground := Ground.data }, { on := 9, ground := Ground.chain }, { on := 4, ground := Ground.guard }], guard := some (4, true) }) (v := .bool false) rfl (by kernel_rfl) (by kernel_rfl) (by kernel_rfl) (fun _ _ _ h => h) (Or.inl ⟨by rfl, fun w' _ => by rfl⟩) hh48 ?_
          simp only [Act.put, List.setIfInBounds_toArray, List.set_cons_zero, List.set_cons_succ]
          refine wpAnyH_take (i := 12) (oi := { dst := some 33, op := Op.move (Operand.tmp 7), type := 4, pos := "law.go:77", after := #[{ on := 11, ground := Ground.guard }], guard := some (11, false) }) (v := .bool false) rfl (by kernel_rfl) (by kernel_rfl) (by kernel_rfl) (fun _ _ _ h => h) (Or.inl ⟨by rfl, fun w' _ => by rfl⟩) hh48 ?_
          simp only [Act.put, List.setIfInBounds_toArray, List.set_cons_zero, List.set_cons_succ]
          refine wpAnyH_take (i := 13) (oi := { dst := some 34, op := Op.unOp UnOp.not 4 (Operand.tmp 33), type := 4, pos := "law.go:77", after := #[{ on := 12, ground := Ground.data }, { on := 11, ground := Ground.guard }], guard := some (11, false) }) (v := .bool true) rfl (by kernel_rfl) (by kernel_rfl) (by kernel_rfl) (fun _ _ _ h => h) (Or.inl ⟨by rfl, fun w' _ => by rfl⟩) hh48 ?_
          simp only [Act.put, List.setIfInBounds_toArray, List.set_cons_zero, List.set_cons_succ]
          refine wpAnyH_take (i := 14) (oi := { dst := some 35, op := Op.move (Operand.tmp 34), type := 4, pos := "law.go:77", after := #[{ on := 13, ground := Ground.data }, { on := 11, ground := Ground.chain }, { on := 11, ground := Ground.guard }], guard := some (11, false) }) (v := .bool true) rfl (by kernel_rfl) (by kernel_rfl) (by kernel_rfl) (fun _ _ _ h => h) (Or.inl ⟨by rfl, fun w' _ => by rfl⟩) hh48 ?_
          simp only [Act.put, List.setIfInBounds_toArray, List.set_cons_zero, List.set_cons_succ]
          refine wpAnyH_take (i := 15) (oi := { dst := some 36, op := Op.load 27 (Operand.tmp 6), type := 27, pos := "law.go:77", after := #[{ on := 14, ground := Ground.guard }], guard := some (14, true) }) (v := .agg (Ls (lim (mulV (invV v0) v0)))) rfl (by kernel_rfl) (by kernel_rfl) (by kernel_rfl) (fun _ _ _ h => h) (lload27 (by rfl) _ rfl (w15.heap.size) (lim (mulV (invV v0) v0)) rfl (by simp) rfl) hh48 ?_
          simp only [Act.put, List.setIfInBounds_toArray, List.set_cons_zero, List.set_cons_succ]
          refine wpAnyH_ready (rs := [16]) (by kernel_rfl) (by simp) ?_
          refine AllReadyH.cons (o := { dst := some 37, op := Op.call { callee := Callee.value (Operand.func 32), args := #[Operand.const (Value.int IntKind.i64 1)], argTypes := #[3] }, type := 29, pos := "law.go:77", after := #[{ on := 14, ground := Ground.chain }, { on := 14, ground := Ground.guard }], guard := some (14, true) }) rfl (fun K hK => ?_) ?_
          · go_simp
            refine (rSmall 1 (by omega) (by omega) _).mono ?_
            rintro e w49 ⟨A50, c51, rfl, s52, b⟩
            have S53 := Lib.hid (S45.out.below b)
            have S54 := Lib.hid (S46.out.below b)
            have S55 := Lib.hid (S47.out.below b)
            have S56 := Lib.hid s52
            clear s52
            refine hK.out _ _ (hh48.call b) (fun hh57 => ?_)
            clear hK K b
            refine wpAnyH_ready (rs := [17]) (by kernel_rfl) (by simp) ?_
            refine AllReadyH.cons (o := { dst := some 38, op := Op.call { callee := Callee.value (Operand.func 21), args := #[Operand.tmp 36, Operand.tmp 37], argTypes := #[27, 29] }, type := 4, pos := "law.go:77", after := #[{ on := 15, ground := Ground.data }, { on := 16, ground := Ground.data }, { on := 16, ground := Ground.chain }, { on := 14, ground := Ground.guard }], guard := some (14, true) }) rfl (fun K hK => ?_) ?_
            · go_simp
              refine (cIsR N16.out _ S56.out (inv_R _ hz)).mono ?_
              rintro e w58 ⟨rfl, b⟩
              have S59 := Lib.hid (S53.out.below b)
              have S60 := Lib.hid (S54.out.below b)
              have S61 := Lib.hid (S55.out.below b)
              have S62 := Lib.hid (S56.out.below b)
              refine hK.out _ _ (hh57.call b) (fun hh63 => ?_)
              clear hK K b
              refine wpAnyH_take (i := 18) (oi := { dst := some 39, op := Op.pick (Operand.tmp 35) (Operand.tmp 38) (Operand.const (Value.bool false)), type := 4, pos := "law.go:77", after := #[{ on := 14, ground := Ground.data }, { on := 17, ground := Ground.data }, { on := 11, ground := Ground.guard }], guard := some (11, false) }) (v := .bool true) rfl (by kernel_rfl) (by kernel_rfl) (by kernel_rfl) (fun _ _ _ h => h) (Or.inl ⟨by rfl, fun w' _ => by rfl⟩) hh63 ?_
              simp only [Act.put, List.setIfInBounds_toArray, List.set_cons_zero, List.set_cons_succ]
              refine wpAnyH_take (i := 19) (oi := { dst := some 40, op := Op.pick (Operand.tmp 32) (Operand.const (Value.bool true)) (Operand.tmp 39), type := 4, pos := "law.go:77", after := #[{ on := 11, ground := Ground.data }, { on := 18, ground := Ground.data }, { on := 4, ground := Ground.guard }], guard := some (4, true) }) (v := .bool true) rfl (by kernel_rfl) (by kernel_rfl) (by kernel_rfl) (fun _ _ _ h => h) (Or.inl ⟨by rfl, fun w' _ => by rfl⟩) hh63 ?_
              simp only [Act.put, List.setIfInBounds_toArray, List.set_cons_zero, List.set_cons_succ]
              refine wpAnyH_take (i := 20) (oi := { dst := some 41, op := Op.pick (Operand.tmp 25) (Operand.tmp 40) (Operand.const (Value.bool false)), type := 4, pos := "law.go:77", after := #[{ on := 4, ground := Ground.data }, { on := 19, ground := Ground.data }], guard := none }) (v := .bool true) rfl (by kernel_rfl) (by kernel_rfl) (by kernel_rfl) (fun _ _ _ h => h) (Or.inl ⟨by rfl, fun w' _ => by rfl⟩) hh63 ?_
              simp only [Act.put, List.setIfInBounds_toArray, List.set_cons_zero, List.set_cons_succ]
              refine wpAnyH_take (i := 21) (oi := { dst := some 2, op := Op.assign (Operand.tmp 41), type := 4, pos := "law.go:77", after := #[{ on := 20, ground := Ground.data }, { on := 17, ground := Ground.chain }, { on := 0, ground := Ground.phase }, { on := 1, ground := Ground.phase }, { on := 2, ground := Ground.phase }, { on := 3, ground := Ground.phase }, { on := 4, ground := Ground.phase }, { on := 5, ground := Ground.phase }, { on := 6, ground := Ground.phase }, { on := 7, ground := Ground.phase }, { on := 8, ground := Ground.phase }, { on := 9, ground := Ground.phase }, { on := 10, ground := Ground.phase }, { on := 11, ground := Ground.phase }, { on := 12, ground := Ground.phase }, { on := 13, ground := Ground.phase }, { on := 14, ground := Ground.phase }, { on := 15, ground := Ground.phase }, { on := 16, ground := Ground.phase }, { on := 17, ground := Ground.phase }, { on := 18, ground := Ground.phase }, { on := 19, ground := Ground.phase }, { on := 20, ground := Ground.phase }], guard := none }) (v := .bool true) rfl (by kernel_rfl) (by kernel_rfl) (by kernel_rfl) (fun _ _ _ h => h) (Or.inl ⟨by rfl, fun w' _ => by rfl⟩) hh63 ?_
              simp only [Act.put, List.setIfInBounds_toArray, List.set_cons_zero, List.set_cons_succ]
              refine wpAnyH_done (by kernel_rfl) ?_ _
              have H64 := Lib.hid hh63
              go_wp2_with fail
              go_ret
              exact ⟨rfl, H64.out.below⟩
            exact AllReadyH.nil
          exact AllReadyH.nil
        exact AllReadyH.nil
      exact AllReadyH.nil

end Go.Proofs.Ytfklojheogidpaa
