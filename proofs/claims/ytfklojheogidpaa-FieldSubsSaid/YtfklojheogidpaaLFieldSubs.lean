import Derived.Test.YtfklojheogidpaaKit3
set_option linter.unusedVariables false
set_option linter.unusedSimpArgs false
namespace Go.Proofs.Ytfklojheogidpaa
open Go.RowKit Go.Proofs.YtfklojheogidpaaW.PrintWords Go.Proofs.YtfklojheogidpaaW.PrintLast Go.Proofs.YtfklojheogidpaaW.PrintMore

set_option maxHeartbeats 4000000 in
set_option maxRecDepth 100000 in
theorem walk_FieldSubs (w : World) (l0 : List Int) (l1 : List Int)
    (hl0 : l0.length = 4) (hw0 : ∀ x ∈ l0, 0 ≤ x ∧ x ≤ 18446744073709551615) (hl1 : l1.length = 4) (hw1 : ∀ x ∈ l1, 0 ≤ x ∧ x ≤ 18446744073709551615) :
    Calls Try.prog 10 #[.agg (nums .u64 l0).toArray, .agg (nums .u64 l1).toArray] w fun e w' => e = .returned (.bool true) ∧ Below w.heap.size w w' := by
  obtain ⟨v0, r0, e0⟩ := arr_E l0 hl0 hw0
  have N0 := Lib.hid (N.of r0)
  rw [e0]
  clear e0 r0 hl0 hw0
  obtain ⟨v1, r1, e1⟩ := arr_E l1 hl1 hw1
  have N1 := Lib.hid (N.of r1)
  rw [e1]
  clear e1 r1 hl1 hw1
  go_enter Try.func10, Try.ntmps10
  go_upto_region 0 with fail
  go_cut [2, 3, 4] (fun s2 s3 s4 wx => s2 = .pointer (some ⟨w.heap.size, 0, none⟩) ∧ s3 = .pointer (some ⟨w.heap.size + 1, 0, none⟩) ∧ s4 = .bool false ∧ LS w [(w.heap.size, lim v0, 24), (w.heap.size + 1, lim v1, 24)] wx)
  case first =>
    go_wp2_with fail
    go_meet
    exact ⟨rfl, rfl, rfl, LS.two _ _⟩
  case rest =>
    obtain ⟨rfl, rfl, rfl, hS⟩ := hcut
    have H0 := Lib.hid hS
    have HW := Lib.hid hS.below
    clear hS
    go_wp2_with fail
    refine (awake_any _).mono ?_
    rintro e w1 ⟨rfl, b⟩
    have H1 := Lib.hid (H0.out.call b)
    clear b H0
    go_upto_region 4 with fail
    go_upto_region 5 with (first | (refine load24w (by rfl) _ rfl (w.heap.size) (lim v0) rfl (H1.out.get _ _ _ (by simp)) rfl ?_) | (refine load24w (by rfl) _ rfl (w.heap.size + 1) (lim v1) rfl (H1.out.get _ _ _ (by simp)) rfl ?_))
    refine (cSub N0.out N1.out _).mono ?_
    rintro e w2 ⟨rfl, b⟩
    have N3 := Lib.hid (N.sub N0.out N1.out)
    have H4 := Lib.hid (H1.out.call b)
    clear b H1
    have HN5 := Lib.hid H4.out.new
    have HP6 := Lib.hid (H4.out.put (lim (subV v0 v1)))
    go_upto_region 5 with (first | (refine store27 rfl _ _ rfl w2.heap.size (lim (subV v0 v1)) [0, 0, 0, 0] rfl rfl HN5.out rfl rfl ?_))
    clear H4
    go_upto_region 5 with fail
    refine wp_region_held_drew (S := LS w [(w2.heap.size, lim (subV v0 v1), 27), (w.heap.size, lim v0, 24), (w.heap.size + 1, lim v1, 24)]) (by kernel_rfl) HP6.out.drew (fun hst7 => ?_)
    refine wpAnyH_take (i := 0) (oi := { dst := some 13, op := Op.load 27 (Operand.tmp 6), type := 27, pos := "law.go:114", after := #[], guard := none }) (v := .agg (Ls (lim (subV v0 v1)))) rfl (by kernel_rfl) (by kernel_rfl) (by kernel_rfl) (fun _ _ _ h => h) (lload27 (by rfl) _ rfl (w2.heap.size) (lim (subV v0 v1)) rfl (by simp) rfl) hst7 ?_
    simp only [Act.put, List.setIfInBounds_toArray, List.set_cons_zero, List.set_cons_succ]
    refine wpAnyH_take (i := 1) (oi := { dst := some 14, op := Op.load 24 (Operand.tmp 2), type := 24, pos := "law.go:114", after := #[], guard := none }) (v := .agg (Ls (lim v0))) rfl (by kernel_rfl) (by kernel_rfl) (by kernel_rfl) (fun _ _ _ h => h) (lload24 (by rfl) _ rfl (w.heap.size) (lim v0) rfl (by simp) rfl) hst7 ?_
    simp only [Act.put, List.setIfInBounds_toArray, List.set_cons_zero, List.set_cons_succ]
    refine wpAnyH_take (i := 3) (oi := { dst := some 16, op := Op.load 24 (Operand.tmp 3), type := 24, pos := "law.go:114", after := #[], guard := none }) (v := .agg (Ls (lim v1))) rfl (by kernel_rfl) (by kernel_rfl) (by kernel_rfl) (fun _ _ _ h => h) (lload24 (by rfl) _ rfl (w.heap.size + 1) (lim v1) rfl (by simp) rfl) hst7 ?_
    simp only [Act.put, List.setIfInBounds_toArray, List.set_cons_zero, List.set_cons_succ]
    refine wpAnyH_ready (rs := [2]) (by kernel_rfl) (by simp) ?_
    refine AllReadyH.cons (o := { dst := some 15, op := Op.call { callee := Callee.value (Operand.func 24), args := #[Operand.tmp 14], argTypes := #[24] }, type := 29, pos := "law.go:114", after := #[{ on := 1, ground := Ground.data }], guard := none }) rfl (fun K hK => ?_) ?_
    · go_simp
      refine (cNum N0.out _).mono ?_
      rintro e w8 ⟨A9, c10, rfl, s11, b⟩
      have S12 := Lib.hid s11
      clear s11
      refine hK.out _ _ (hst7.call b) (fun hh13 => ?_)
      clear hK K b
      refine wpAnyH_ready (rs := [4]) (by kernel_rfl) (by simp) ?_
      refine AllReadyH.cons (o := { dst := some 17, op := Op.call { callee := Callee.value (Operand.func 24), args := #[Operand.tmp 16], argTypes := #[24] }, type := 29, pos := "law.go:114", after := #[{ on := 3, ground := Ground.data }, { on := 2, ground := Ground.chain }], guard := none }) rfl (fun K hK => ?_) ?_
      · go_simp
        refine (cNum N1.out _).mono ?_
        rintro e w14 ⟨A15, c16, rfl, s17, b⟩
        have S18 := Lib.hid (S12.out.below b)
        have S19 := Lib.hid s17
        clear s17
        refine hK.out _ _ (hh13.call b) (fun hh20 => ?_)
        clear hK K b
        refine wpAnyH_ready (rs := [5]) (by kernel_rfl) (by simp) ?_
        refine AllReadyH.cons (o := { dst := some 18, op := Op.call { callee := Callee.value (Operand.func 28), args := #[Operand.tmp 15, Operand.tmp 17], argTypes := #[29, 29] }, type := 29, pos := "law.go:114", after := #[{ on := 2, ground := Ground.data }, { on := 4, ground := Ground.data }, { on := 4, ground := Ground.chain }], guard := none }) rfl (fun K hK => ?_) ?_
        · go_simp
          refine (rSub _ _ _ S18.out S19.out).mono ?_
          rintro e w21 ⟨A22, c23, rfl, s24, b⟩
          have S25 := Lib.hid (S18.out.below b)
          have S26 := Lib.hid (S19.out.below b)
          have S27 := Lib.hid s24
          clear s24
          refine hK.out _ _ (hh20.call b) (fun hh28 => ?_)
          clear hK K b
          refine wpAnyH_ready (rs := [6]) (by kernel_rfl) (by simp) ?_
          refine AllReadyH.cons (o := { dst := some 19, op := Op.call { callee := Callee.value (Operand.func 21), args := #[Operand.tmp 13, Operand.tmp 18], argTypes := #[27, 29] }, type := 4, pos := "law.go:114", after := #[{ on := 0, ground := Ground.data }, { on := 5, ground := Ground.data }, { on := 5, ground := Ground.chain }], guard := none }) rfl (fun K hK => ?_) ?_
          · go_simp
            refine (cIs N3.out _ S27.out (by grind)).mono ?_
            rintro e w29 ⟨rfl, b⟩
            have S30 := Lib.hid (S25.out.below b)
            have S31 := Lib.hid (S26.out.below b)
            have S32 := Lib.hid (S27.out.below b)
            refine hK.out _ _ (hh28.call b) (fun hh33 => ?_)
            clear hK K b
            refine wpAnyH_take (i := 7) (oi := { dst := some 20, op := Op.move (Operand.tmp 19), type := 4, pos := "law.go:114", after := #[{ on := 6, ground := Ground.data }, { on := 6, ground := Ground.chain }], guard := none }) (v := .bool true) rfl (by kernel_rfl) (by kernel_rfl) (by kernel_rfl) (fun _ _ _ h => h) (Or.inl ⟨by rfl, fun w' _ => by rfl⟩) hh33 ?_
            simp only [Act.put, List.setIfInBounds_toArray, List.set_cons_zero, List.set_cons_succ]
            refine wpAnyH_take (i := 8) (oi := { dst := some 21, op := Op.load 27 (Operand.tmp 6), type := 27, pos := "law.go:114", after := #[{ on := 7, ground := Ground.guard }], guard := some (7, true) }) (v := .agg (Ls (lim (subV v0 v1)))) rfl (by kernel_rfl) (by kernel_rfl) (by kernel_rfl) (fun _ _ _ h => h) (lload27 (by rfl) _ rfl (w2.heap.size) (lim (subV v0 v1)) rfl (by simp) rfl) hh33 ?_
            simp only [Act.put, List.setIfInBounds_toArray, List.set_cons_zero, List.set_cons_succ]
            refine wpAnyH_take (i := 9) (oi := { dst := some 22, op := Op.load 24 (Operand.tmp 3), type := 24, pos := "law.go:114", after := #[{ on := 7, ground := Ground.guard }], guard := some (7, true) }) (v := .agg (Ls (lim v1))) rfl (by kernel_rfl) (by kernel_rfl) (by kernel_rfl) (fun _ _ _ h => h) (lload24 (by rfl) _ rfl (w.heap.size + 1) (lim v1) rfl (by simp) rfl) hh33 ?_
            simp only [Act.put, List.setIfInBounds_toArray, List.set_cons_zero, List.set_cons_succ]
            refine wpAnyH_take (i := 11) (oi := { dst := some 24, op := Op.load 24 (Operand.tmp 2), type := 24, pos := "law.go:114", after := #[{ on := 7, ground := Ground.guard }], guard := some (7, true) }) (v := .agg (Ls (lim v0))) rfl (by kernel_rfl) (by kernel_rfl) (by kernel_rfl) (fun _ _ _ h => h) (lload24 (by rfl) _ rfl (w.heap.size) (lim v0) rfl (by simp) rfl) hh33 ?_
            simp only [Act.put, List.setIfInBounds_toArray, List.set_cons_zero, List.set_cons_succ]
            refine wpAnyH_ready (rs := [10]) (by kernel_rfl) (by simp) ?_
            refine AllReadyH.cons (o := { dst := some 23, op := Op.call { callee := Callee.value (Operand.func 25), args := #[Operand.tmp 21, Operand.tmp 22], argTypes := #[27, 27] }, type := 27, pos := "law.go:114", after := #[{ on := 8, ground := Ground.data }, { on := 9, ground := Ground.data }, { on := 7, ground := Ground.chain }, { on := 7, ground := Ground.guard }], guard := some (7, true) }) rfl (fun K hK => ?_) ?_
            · go_simp
              refine (cAdd N3.out N1.out _).mono ?_
              rintro e w34 ⟨rfl, b⟩
              have N35 := Lib.hid (N.add N3.out N1.out)
              have S36 := Lib.hid (S30.out.below b)
              have S37 := Lib.hid (S31.out.below b)
              have S38 := Lib.hid (S32.out.below b)
              refine hK.out _ _ (hh33.call b) (fun hh39 => ?_)
              clear hK K b
              refine wpAnyH_ready (rs := [12]) (by kernel_rfl) (by simp) ?_
              refine AllReadyH.cons (o := { dst := some 25, op := Op.call { callee := Callee.value (Operand.func 38), args := #[Operand.tmp 23, Operand.tmp 24], argTypes := #[27, 27] }, type := 4, pos := "law.go:114", after := #[{ on := 10, ground := Ground.data }, { on := 11, ground := Ground.data }, { on := 10, ground := Ground.chain }, { on := 7, ground := Ground.guard }], guard := some (7, true) }) rfl (fun K hK => ?_) ?_
              · go_simp
                refine (cSame N35.out N0.out (by grind) _).mono ?_
                rintro e w40 ⟨rfl, b⟩
                have S41 := Lib.hid (S36.out.below b)
                have S42 := Lib.hid (S37.out.below b)
                have S43 := Lib.hid (S38.out.below b)
                refine hK.out _ _ (hh39.call b) (fun hh44 => ?_)
                clear hK K b
                refine wpAnyH_take (i := 13) (oi := { dst := some 26, op := Op.pick (Operand.tmp 20) (Operand.tmp 25) (Operand.const (Value.bool false)), type := 4, pos := "law.go:114", after := #[{ on := 7, ground := Ground.data }, { on := 12, ground := Ground.data }], guard := none }) (v := .bool true) rfl (by kernel_rfl) (by kernel_rfl) (by kernel_rfl) (fun _ _ _ h => h) (Or.inl ⟨by rfl, fun w' _ => by rfl⟩) hh44 ?_
                simp only [Act.put, List.setIfInBounds_toArray, List.set_cons_zero, List.set_cons_succ]
                refine wpAnyH_take (i := 14) (oi := { dst := some 27, op := Op.move (Operand.tmp 26), type := 4, pos := "law.go:114", after := #[{ on := 13, ground := Ground.data }, { on := 12, ground := Ground.chain }], guard := none }) (v := .bool true) rfl (by kernel_rfl) (by kernel_rfl) (by kernel_rfl) (fun _ _ _ h => h) (Or.inl ⟨by rfl, fun w' _ => by rfl⟩) hh44 ?_
                simp only [Act.put, List.setIfInBounds_toArray, List.set_cons_zero, List.set_cons_succ]
                refine wpAnyH_take (i := 15) (oi := { dst := some 28, op := Op.load 24 (Operand.tmp 2), type := 24, pos := "law.go:114", after := #[{ on := 14, ground := Ground.guard }], guard := some (14, true) }) (v := .agg (Ls (lim v0))) rfl (by kernel_rfl) (by kernel_rfl) (by kernel_rfl) (fun _ _ _ h => h) (lload24 (by rfl) _ rfl (w.heap.size) (lim v0) rfl (by simp) rfl) hh44 ?_
                simp only [Act.put, List.setIfInBounds_toArray, List.set_cons_zero, List.set_cons_succ]
                refine wpAnyH_take (i := 16) (oi := { dst := some 29, op := Op.load 24 (Operand.tmp 2), type := 24, pos := "law.go:114", after := #[{ on := 14, ground := Ground.guard }], guard := some (14, true) }) (v := .agg (Ls (lim v0))) rfl (by kernel_rfl) (by kernel_rfl) (by kernel_rfl) (fun _ _ _ h => h) (lload24 (by rfl) _ rfl (w.heap.size) (lim v0) rfl (by simp) rfl) hh44 ?_
                simp only [Act.put, List.setIfInBounds_toArray, List.set_cons_zero, List.set_cons_succ]
                refine wpAnyH_take (i := 18) (oi := { dst := some 31, op := Op.build 27 #[], type := 27, pos := "law.go:114", after := #[{ on := 14, ground := Ground.guard }], guard := some (14, true) }) (v := .agg (Ls (lim 0))) rfl (by kernel_rfl) (by kernel_rfl) (by kernel_rfl) (fun _ _ _ h => h) (Or.inl ⟨by rfl, fun w' _ => by kernel_rfl⟩) hh44 ?_
                simp only [Act.put, List.setIfInBounds_toArray, List.set_cons_zero, List.set_cons_succ]
                refine wpAnyH_ready (rs := [17]) (by kernel_rfl) (by simp) ?_
                refine AllReadyH.cons (o := { dst := some 30, op := Op.call { callee := Callee.value (Operand.func 27), args := #[Operand.tmp 28, Operand.tmp 29], argTypes := #[27, 27] }, type := 27, pos := "law.go:114", after := #[{ on := 15, ground := Ground.data }, { on := 16, ground := Ground.data }, { on := 14, ground := Ground.chain }, { on := 14, ground := Ground.guard }], guard := some (14, true) }) rfl (fun K hK => ?_) ?_
                · go_simp
                  refine (cSub N0.out N0.out _).mono ?_
                  rintro e w45 ⟨rfl, b⟩
                  have N46 := Lib.hid (N.sub N0.out N0.out)
                  have S47 := Lib.hid (S41.out.below b)
                  have S48 := Lib.hid (S42.out.below b)
                  have S49 := Lib.hid (S43.out.below b)
                  refine hK.out _ _ (hh44.call b) (fun hh50 => ?_)
                  clear hK K b
                  refine wpAnyH_ready (rs := [19]) (by kernel_rfl) (by simp) ?_
                  refine AllReadyH.cons (o := { dst := some 32, op := Op.call { callee := Callee.value (Operand.func 38), args := #[Operand.tmp 30, Operand.tmp 31], argTypes := #[27, 27] }, type := 4, pos := "law.go:114", after := #[{ on := 17, ground := Ground.data }, { on := 18, ground := Ground.data }, { on := 17, ground := Ground.chain }, { on := 14, ground := Ground.guard }], guard := some (14, true) }) rfl (fun K hK => ?_) ?_
                  · go_simp
                    refine (cSame N46.out N.zero (by grind) _).mono ?_
                    rintro e w51 ⟨rfl, b⟩
                    have S52 := Lib.hid (S47.out.below b)
                    have S53 := Lib.hid (S48.out.below b)
                    have S54 := Lib.hid (S49.out.below b)
                    refine hK.out _ _ (hh50.call b) (fun hh55 => ?_)
                    clear hK K b
                    refine wpAnyH_take (i := 20) (oi := { dst := some 33, op := Op.pick (Operand.tmp 27) (Operand.tmp 32) (Operand.const (Value.bool false)), type := 4, pos := "law.go:114", after := #[{ on := 14, ground := Ground.data }, { on := 19, ground := Ground.data }], guard := none }) (v := .bool true) rfl (by kernel_rfl) (by kernel_rfl) (by kernel_rfl) (fun _ _ _ h => h) (Or.inl ⟨by rfl, fun w' _ => by rfl⟩) hh55 ?_
                    simp only [Act.put, List.setIfInBounds_toArray, List.set_cons_zero, List.set_cons_succ]
                    refine wpAnyH_take (i := 21) (oi := { dst := some 34, op := Op.move (Operand.tmp 33), type := 4, pos := "law.go:114", after := #[{ on := 20, ground := Ground.data }, { on := 19, ground := Ground.chain }], guard := none }) (v := .bool true) rfl (by kernel_rfl) (by kernel_rfl) (by kernel_rfl) (fun _ _ _ h => h) (Or.inl ⟨by rfl, fun w' _ => by rfl⟩) hh55 ?_
                    simp only [Act.put, List.setIfInBounds_toArray, List.set_cons_zero, List.set_cons_succ]
                    refine wpAnyH_take (i := 22) (oi := { dst := some 35, op := Op.load 24 (Operand.tmp 3), type := 24, pos := "law.go:114", after := #[{ on := 21, ground := Ground.guard }], guard := some (21, true) }) (v := .agg (Ls (lim v1))) rfl (by kernel_rfl) (by kernel_rfl) (by kernel_rfl) (fun _ _ _ h => h) (lload24 (by rfl) _ rfl (w.heap.size + 1) (lim v1) rfl (by simp) rfl) hh55 ?_
                    simp only [Act.put, List.setIfInBounds_toArray, List.set_cons_zero, List.set_cons_succ]
                    refine wpAnyH_take (i := 23) (oi := { dst := some 36, op := Op.load 24 (Operand.tmp 2), type := 24, pos := "law.go:114", after := #[{ on := 21, ground := Ground.guard }], guard := some (21, true) }) (v := .agg (Ls (lim v0))) rfl (by kernel_rfl) (by kernel_rfl) (by kernel_rfl) (fun _ _ _ h => h) (lload24 (by rfl) _ rfl (w.heap.size) (lim v0) rfl (by simp) rfl) hh55 ?_
                    simp only [Act.put, List.setIfInBounds_toArray, List.set_cons_zero, List.set_cons_succ]
                    refine wpAnyH_take (i := 25) (oi := { dst := some 38, op := Op.build 27 #[], type := 27, pos := "law.go:114", after := #[{ on := 21, ground := Ground.guard }], guard := some (21, true) }) (v := .agg (Ls (lim 0))) rfl (by kernel_rfl) (by kernel_rfl) (by kernel_rfl) (fun _ _ _ h => h) (Or.inl ⟨by rfl, fun w' _ => by kernel_rfl⟩) hh55 ?_
                    simp only [Act.put, List.setIfInBounds_toArray, List.set_cons_zero, List.set_cons_succ]
                    refine wpAnyH_take (i := 26) (oi := { dst := some 39, op := Op.load 27 (Operand.tmp 6), type := 27, pos := "law.go:114", after := #[{ on := 21, ground := Ground.guard }], guard := some (21, true) }) (v := .agg (Ls (lim (subV v0 v1)))) rfl (by kernel_rfl) (by kernel_rfl) (by kernel_rfl) (fun _ _ _ h => h) (lload27 (by rfl) _ rfl (w2.heap.size) (lim (subV v0 v1)) rfl (by simp) rfl) hh55 ?_
                    simp only [Act.put, List.setIfInBounds_toArray, List.set_cons_zero, List.set_cons_succ]
                    refine wpAnyH_ready (rs := [24]) (by kernel_rfl) (by simp) ?_
                    refine AllReadyH.cons (o := { dst := some 37, op := Op.call { callee := Callee.value (Operand.func 27), args := #[Operand.tmp 35, Operand.tmp 36], argTypes := #[27, 27] }, type := 27, pos := "law.go:114", after := #[{ on := 22, ground := Ground.data }, { on := 23, ground := Ground.data }, { on := 21, ground := Ground.chain }, { on := 21, ground := Ground.guard }], guard := some (21, true) }) rfl (fun K hK => ?_) ?_
                    · go_simp
                      refine (cSub N1.out N0.out _).mono ?_
                      rintro e w56 ⟨rfl, b⟩
                      have N57 := Lib.hid (N.sub N1.out N0.out)
                      have S58 := Lib.hid (S52.out.below b)
                      have S59 := Lib.hid (S53.out.below b)
                      have S60 := Lib.hid (S54.out.below b)
                      refine hK.out _ _ (hh55.call b) (fun hh61 => ?_)
                      clear hK K b
                      refine wpAnyH_ready (rs := [27]) (by kernel_rfl) (by simp) ?_
                      refine AllReadyH.cons (o := { dst := some 40, op := Op.call { callee := Callee.value (Operand.func 27), args := #[Operand.tmp 38, Operand.tmp 39], argTypes := #[27, 27] }, type := 27, pos := "law.go:114", after := #[{ on := 25, ground := Ground.data }, { on := 26, ground := Ground.data }, { on := 24, ground := Ground.chain }, { on := 21, ground := Ground.guard }], guard := some (21, true) }) rfl (fun K hK => ?_) ?_
                      · go_simp
                        refine (cSub N.zero N3.out _).mono ?_
                        rintro e w62 ⟨rfl, b⟩
                        have N63 := Lib.hid (N.sub N.zero N3.out)
                        have S64 := Lib.hid (S58.out.below b)
                        have S65 := Lib.hid (S59.out.below b)
                        have S66 := Lib.hid (S60.out.below b)
                        refine hK.out _ _ (hh61.call b) (fun hh67 => ?_)
                        clear hK K b
                        refine wpAnyH_ready (rs := [28]) (by kernel_rfl) (by simp) ?_
                        refine AllReadyH.cons (o := { dst := some 41, op := Op.call { callee := Callee.value (Operand.func 38), args := #[Operand.tmp 37, Operand.tmp 40], argTypes := #[27, 27] }, type := 4, pos := "law.go:114", after := #[{ on := 24, ground := Ground.data }, { on := 27, ground := Ground.data }, { on := 27, ground := Ground.chain }, { on := 21, ground := Ground.guard }], guard := some (21, true) }) rfl (fun K hK => ?_) ?_
                        · go_simp
                          refine (cSame N57.out N63.out (by grind) _).mono ?_
                          rintro e w68 ⟨rfl, b⟩
                          have S69 := Lib.hid (S64.out.below b)
                          have S70 := Lib.hid (S65.out.below b)
                          have S71 := Lib.hid (S66.out.below b)
                          refine hK.out _ _ (hh67.call b) (fun hh72 => ?_)
                          clear hK K b
                          refine wpAnyH_take (i := 29) (oi := { dst := some 42, op := Op.pick (Operand.tmp 34) (Operand.tmp 41) (Operand.const (Value.bool false)), type := 4, pos := "law.go:114", after := #[{ on := 21, ground := Ground.data }, { on := 28, ground := Ground.data }], guard := none }) (v := .bool true) rfl (by kernel_rfl) (by kernel_rfl) (by kernel_rfl) (fun _ _ _ h => h) (Or.inl ⟨by rfl, fun w' _ => by rfl⟩) hh72 ?_
                          simp only [Act.put, List.setIfInBounds_toArray, List.set_cons_zero, List.set_cons_succ]
                          refine wpAnyH_take (i := 30) (oi := { dst := some 4, op := Op.assign (Operand.tmp 42), type := 4, pos := "law.go:114", after := #[{ on := 29, ground := Ground.data }, { on := 28, ground := Ground.chain }, { on := 0, ground := Ground.phase }, { on := 1, ground := Ground.phase }, { on := 2, ground := Ground.phase }, { on := 3, ground := Ground.phase }, { on := 4, ground := Ground.phase }, { on := 5, ground := Ground.phase }, { on := 6, ground := Ground.phase }, { on := 7, ground := Ground.phase }, { on := 8, ground := Ground.phase }, { on := 9, ground := Ground.phase }, { on := 10, ground := Ground.phase }, { on := 11, ground := Ground.phase }, { on := 12, ground := Ground.phase }, { on := 13, ground := Ground.phase }, { on := 14, ground := Ground.phase }, { on := 15, ground := Ground.phase }, { on := 16, ground := Ground.phase }, { on := 17, ground := Ground.phase }, { on := 18, ground := Ground.phase }, { on := 19, ground := Ground.phase }, { on := 20, ground := Ground.phase }, { on := 21, ground := Ground.phase }, { on := 22, ground := Ground.phase }, { on := 23, ground := Ground.phase }, { on := 24, ground := Ground.phase }, { on := 25, ground := Ground.phase }, { on := 26, ground := Ground.phase }, { on := 27, ground := Ground.phase }, { on := 28, ground := Ground.phase }, { on := 29, ground := Ground.phase }], guard := none }) (v := .bool true) rfl (by kernel_rfl) (by kernel_rfl) (by kernel_rfl) (fun _ _ _ h => h) (Or.inl ⟨by rfl, fun w' _ => by rfl⟩) hh72 ?_
                          simp only [Act.put, List.setIfInBounds_toArray, List.set_cons_zero, List.set_cons_succ]
                          refine wpAnyH_done (by kernel_rfl) ?_ _
                          have H73 := Lib.hid hh72
                          go_wp2_with fail
                          go_ret
                          exact ⟨rfl, H73.out.below⟩
                        exact AllReadyH.nil
                      exact AllReadyH.nil
                    exact AllReadyH.nil
                  exact AllReadyH.nil
                exact AllReadyH.nil
              exact AllReadyH.nil
            exact AllReadyH.nil
          exact AllReadyH.nil
        exact AllReadyH.nil
      exact AllReadyH.nil
    exact AllReadyH.nil

end Go.Proofs.Ytfklojheogidpaa
