import Derived.Test.YtfklojheogidpaaKit3
set_option linter.unusedVariables false
set_option linter.unusedSimpArgs false
namespace Go.Proofs.Ytfklojheogidpaa
open Go.RowKit Go.Proofs.YtfklojheogidpaaW.PrintWords Go.Proofs.YtfklojheogidpaaW.PrintLast Go.Proofs.YtfklojheogidpaaW.PrintMore

set_option maxHeartbeats 4000000 in
set_option maxRecDepth 100000 in
theorem walk_FieldLaws (w : World) (l0 : List Int) (l1 : List Int) (l2 : List Int)
    (hl0 : l0.length = 4) (hw0 : ∀ x ∈ l0, 0 ≤ x ∧ x ≤ 18446744073709551615) (hl1 : l1.length = 4) (hw1 : ∀ x ∈ l1, 0 ≤ x ∧ x ≤ 18446744073709551615) (hl2 : l2.length = 4) (hw2 : ∀ x ∈ l2, 0 ≤ x ∧ x ≤ 18446744073709551615) :
    Calls Try.prog 9 #[.agg (nums .u64 l0).toArray, .agg (nums .u64 l1).toArray, .agg (nums .u64 l2).toArray] w fun e w' => e = .returned (.bool true) ∧ Below w.heap.size w w' := by
  obtain ⟨v0, r0, e0⟩ := arr_E l0 hl0 hw0
  have N0 := Lib.hid (N.of r0)
  rw [e0]
  clear e0 r0 hl0 hw0
  obtain ⟨v1, r1, e1⟩ := arr_E l1 hl1 hw1
  have N1 := Lib.hid (N.of r1)
  rw [e1]
  clear e1 r1 hl1 hw1
  obtain ⟨v2, r2, e2⟩ := arr_E l2 hl2 hw2
  have N2 := Lib.hid (N.of r2)
  rw [e2]
  clear e2 r2 hl2 hw2
  go_enter Try.func9, Try.ntmps9
  go_upto_region 0 with fail
  go_cut [3, 4, 5, 6] (fun s3 s4 s5 s6 wx => s3 = .pointer (some ⟨w.heap.size, 0, none⟩) ∧ s4 = .pointer (some ⟨w.heap.size + 1, 0, none⟩) ∧ s5 = .pointer (some ⟨w.heap.size + 1 + 1, 0, none⟩) ∧ s6 = .bool false ∧ LS w [(w.heap.size, lim v0, 24), (w.heap.size + 1, lim v1, 24), (w.heap.size + 1 + 1, lim v2, 24)] wx)
  case first =>
    go_wp2_with fail
    go_meet
    exact ⟨rfl, rfl, rfl, rfl, LS.three _ _ _⟩
  case rest =>
    obtain ⟨rfl, rfl, rfl, rfl, hS⟩ := hcut
    have H0 := Lib.hid hS
    have HW := Lib.hid hS.below
    clear hS
    go_wp2_with fail
    refine (awake_any _).mono ?_
    rintro e w1 ⟨rfl, b⟩
    have H1 := Lib.hid (H0.out.call b)
    clear b H0
    go_upto_region 4 with fail
    refine wp_region_held_drew (S := LS w [(w.heap.size, lim v0, 24), (w.heap.size + 1, lim v1, 24), (w.heap.size + 1 + 1, lim v2, 24)]) (by kernel_rfl) H1.out.drew (fun hst2 => ?_)
    refine wpAnyH_take (i := 0) (oi := { dst := some 16, op := Op.load 24 (Operand.tmp 3), type := 24, pos := "law.go:99", after := #[], guard := none }) (v := .agg (Ls (lim v0))) rfl (by kernel_rfl) (by kernel_rfl) (by kernel_rfl) (fun _ _ _ h => h) (lload24 (by rfl) _ rfl (w.heap.size) (lim v0) rfl (by simp) rfl) hst2 ?_
    simp only [Act.put, List.setIfInBounds_toArray, List.set_cons_zero, List.set_cons_succ]
    refine wpAnyH_take (i := 1) (oi := { dst := some 17, op := Op.load 24 (Operand.tmp 4), type := 24, pos := "law.go:99", after := #[], guard := none }) (v := .agg (Ls (lim v1))) rfl (by kernel_rfl) (by kernel_rfl) (by kernel_rfl) (fun _ _ _ h => h) (lload24 (by rfl) _ rfl (w.heap.size + 1) (lim v1) rfl (by simp) rfl) hst2 ?_
    simp only [Act.put, List.setIfInBounds_toArray, List.set_cons_zero, List.set_cons_succ]
    refine wpAnyH_take (i := 3) (oi := { dst := some 19, op := Op.load 24 (Operand.tmp 4), type := 24, pos := "law.go:99", after := #[], guard := none }) (v := .agg (Ls (lim v1))) rfl (by kernel_rfl) (by kernel_rfl) (by kernel_rfl) (fun _ _ _ h => h) (lload24 (by rfl) _ rfl (w.heap.size + 1) (lim v1) rfl (by simp) rfl) hst2 ?_
    simp only [Act.put, List.setIfInBounds_toArray, List.set_cons_zero, List.set_cons_succ]
    refine wpAnyH_take (i := 4) (oi := { dst := some 20, op := Op.load 24 (Operand.tmp 3), type := 24, pos := "law.go:99", after := #[], guard := none }) (v := .agg (Ls (lim v0))) rfl (by kernel_rfl) (by kernel_rfl) (by kernel_rfl) (fun _ _ _ h => h) (lload24 (by rfl) _ rfl (w.heap.size) (lim v0) rfl (by simp) rfl) hst2 ?_
    simp only [Act.put, List.setIfInBounds_toArray, List.set_cons_zero, List.set_cons_succ]
    refine wpAnyH_ready (rs := [2]) (by kernel_rfl) (by simp) ?_
    refine AllReadyH.cons (o := { dst := some 18, op := Op.call { callee := Callee.value (Operand.func 25), args := #[Operand.tmp 16, Operand.tmp 17], argTypes := #[27, 27] }, type := 27, pos := "law.go:99", after := #[{ on := 0, ground := Ground.data }, { on := 1, ground := Ground.data }], guard := none }) rfl (fun K hK => ?_) ?_
    · go_simp
      refine (cAdd N0.out N1.out _).mono ?_
      rintro e w3 ⟨rfl, b⟩
      have N4 := Lib.hid (N.add N0.out N1.out)
      refine hK.out _ _ (hst2.call b) (fun hh5 => ?_)
      clear hK K b
      refine wpAnyH_ready (rs := [5]) (by kernel_rfl) (by simp) ?_
      refine AllReadyH.cons (o := { dst := some 21, op := Op.call { callee := Callee.value (Operand.func 25), args := #[Operand.tmp 19, Operand.tmp 20], argTypes := #[27, 27] }, type := 27, pos := "law.go:99", after := #[{ on := 3, ground := Ground.data }, { on := 4, ground := Ground.data }, { on := 2, ground := Ground.chain }], guard := none }) rfl (fun K hK => ?_) ?_
      · go_simp
        refine (cAdd N1.out N0.out _).mono ?_
        rintro e w6 ⟨rfl, b⟩
        have N7 := Lib.hid (N.add N1.out N0.out)
        refine hK.out _ _ (hh5.call b) (fun hh8 => ?_)
        clear hK K b
        refine wpAnyH_ready (rs := [6]) (by kernel_rfl) (by simp) ?_
        refine AllReadyH.cons (o := { dst := some 22, op := Op.call { callee := Callee.value (Operand.func 38), args := #[Operand.tmp 18, Operand.tmp 21], argTypes := #[27, 27] }, type := 4, pos := "law.go:99", after := #[{ on := 2, ground := Ground.data }, { on := 5, ground := Ground.data }, { on := 5, ground := Ground.chain }], guard := none }) rfl (fun K hK => ?_) ?_
        · go_simp
          refine (cSame N4.out N7.out (by grind) _).mono ?_
          rintro e w9 ⟨rfl, b⟩
          refine hK.out _ _ (hh8.call b) (fun hh10 => ?_)
          clear hK K b
          refine wpAnyH_take (i := 7) (oi := { dst := some 23, op := Op.move (Operand.tmp 22), type := 4, pos := "law.go:99", after := #[{ on := 6, ground := Ground.data }, { on := 6, ground := Ground.chain }], guard := none }) (v := .bool true) rfl (by kernel_rfl) (by kernel_rfl) (by kernel_rfl) (fun _ _ _ h => h) (Or.inl ⟨by rfl, fun w' _ => by rfl⟩) hh10 ?_
          simp only [Act.put, List.setIfInBounds_toArray, List.set_cons_zero, List.set_cons_succ]
          refine wpAnyH_take (i := 8) (oi := { dst := some 24, op := Op.load 24 (Operand.tmp 3), type := 24, pos := "law.go:99", after := #[{ on := 7, ground := Ground.guard }], guard := some (7, true) }) (v := .agg (Ls (lim v0))) rfl (by kernel_rfl) (by kernel_rfl) (by kernel_rfl) (fun _ _ _ h => h) (lload24 (by rfl) _ rfl (w.heap.size) (lim v0) rfl (by simp) rfl) hh10 ?_
          simp only [Act.put, List.setIfInBounds_toArray, List.set_cons_zero, List.set_cons_succ]
          refine wpAnyH_take (i := 9) (oi := { dst := some 25, op := Op.load 24 (Operand.tmp 4), type := 24, pos := "law.go:99", after := #[{ on := 7, ground := Ground.guard }], guard := some (7, true) }) (v := .agg (Ls (lim v1))) rfl (by kernel_rfl) (by kernel_rfl) (by kernel_rfl) (fun _ _ _ h => h) (lload24 (by rfl) _ rfl (w.heap.size + 1) (lim v1) rfl (by simp) rfl) hh10 ?_
          simp only [Act.put, List.setIfInBounds_toArray, List.set_cons_zero, List.set_cons_succ]
          refine wpAnyH_take (i := 11) (oi := { dst := some 27, op := Op.load 24 (Operand.tmp 4), type := 24, pos := "law.go:99", after := #[{ on := 7, ground := Ground.guard }], guard := some (7, true) }) (v := .agg (Ls (lim v1))) rfl (by kernel_rfl) (by kernel_rfl) (by kernel_rfl) (fun _ _ _ h => h) (lload24 (by rfl) _ rfl (w.heap.size + 1) (lim v1) rfl (by simp) rfl) hh10 ?_
          simp only [Act.put, List.setIfInBounds_toArray, List.set_cons_zero, List.set_cons_succ]
          refine wpAnyH_take (i := 12) (oi := { dst := some 28, op := Op.load 24 (Operand.tmp 3), type := 24, pos := "law.go:99", after := #[{ on := 7, ground := Ground.guard }], guard := some (7, true) }) (v := .agg (Ls (lim v0))) rfl (by kernel_rfl) (by kernel_rfl) (by kernel_rfl) (fun _ _ _ h => h) (lload24 (by rfl) _ rfl (w.heap.size) (lim v0) rfl (by simp) rfl) hh10 ?_
          simp only [Act.put, List.setIfInBounds_toArray, List.set_cons_zero, List.set_cons_succ]
          refine wpAnyH_ready (rs := [10]) (by kernel_rfl) (by simp) ?_
          refine AllReadyH.cons (o := { dst := some 26, op := Op.call { callee := Callee.value (Operand.func 29), args := #[Operand.tmp 24, Operand.tmp 25], argTypes := #[27, 27] }, type := 27, pos := "law.go:99", after := #[{ on := 8, ground := Ground.data }, { on := 9, ground := Ground.data }, { on := 7, ground := Ground.chain }, { on := 7, ground := Ground.guard }], guard := some (7, true) }) rfl (fun K hK => ?_) ?_
          · go_simp
            refine (cMul N0.out N1.out _).mono ?_
            rintro e w11 ⟨rfl, b⟩
            have N12 := Lib.hid (N.mul N0.out N1.out)
            refine hK.out _ _ (hh10.call b) (fun hh13 => ?_)
            clear hK K b
            refine wpAnyH_ready (rs := [13]) (by kernel_rfl) (by simp) ?_
            refine AllReadyH.cons (o := { dst := some 29, op := Op.call { callee := Callee.value (Operand.func 29), args := #[Operand.tmp 27, Operand.tmp 28], argTypes := #[27, 27] }, type := 27, pos := "law.go:99", after := #[{ on := 11, ground := Ground.data }, { on := 12, ground := Ground.data }, { on := 10, ground := Ground.chain }, { on := 7, ground := Ground.guard }], guard := some (7, true) }) rfl (fun K hK => ?_) ?_
            · go_simp
              refine (cMul N1.out N0.out _).mono ?_
              rintro e w14 ⟨rfl, b⟩
              have N15 := Lib.hid (N.mul N1.out N0.out)
              refine hK.out _ _ (hh13.call b) (fun hh16 => ?_)
              clear hK K b
              refine wpAnyH_ready (rs := [14]) (by kernel_rfl) (by simp) ?_
              refine AllReadyH.cons (o := { dst := some 30, op := Op.call { callee := Callee.value (Operand.func 38), args := #[Operand.tmp 26, Operand.tmp 29], argTypes := #[27, 27] }, type := 4, pos := "law.go:99", after := #[{ on := 10, ground := Ground.data }, { on := 13, ground := Ground.data }, { on := 13, ground := Ground.chain }, { on := 7, ground := Ground.guard }], guard := some (7, true) }) rfl (fun K hK => ?_) ?_
              · go_simp
                refine (cSame N12.out N15.out (by grind) _).mono ?_
                rintro e w17 ⟨rfl, b⟩
                refine hK.out _ _ (hh16.call b) (fun hh18 => ?_)
                clear hK K b
                refine wpAnyH_take (i := 15) (oi := { dst := some 31, op := Op.pick (Operand.tmp 23) (Operand.tmp 30) (Operand.const (Value.bool false)), type := 4, pos := "law.go:99", after := #[{ on := 7, ground := Ground.data }, { on := 14, ground := Ground.data }], guard := none }) (v := .bool true) rfl (by kernel_rfl) (by kernel_rfl) (by kernel_rfl) (fun _ _ _ h => h) (Or.inl ⟨by rfl, fun w' _ => by rfl⟩) hh18 ?_
                simp only [Act.put, List.setIfInBounds_toArray, List.set_cons_zero, List.set_cons_succ]
                refine wpAnyH_take (i := 16) (oi := { dst := some 8, op := Op.assign (Operand.tmp 31), type := 4, pos := "law.go:99", after := #[{ on := 15, ground := Ground.data }, { on := 14, ground := Ground.chain }, { on := 0, ground := Ground.phase }, { on := 1, ground := Ground.phase }, { on := 2, ground := Ground.phase }, { on := 3, ground := Ground.phase }, { on := 4, ground := Ground.phase }, { on := 5, ground := Ground.phase }, { on := 6, ground := Ground.phase }, { on := 7, ground := Ground.phase }, { on := 8, ground := Ground.phase }, { on := 9, ground := Ground.phase }, { on := 10, ground := Ground.phase }, { on := 11, ground := Ground.phase }, { on := 12, ground := Ground.phase }, { on := 13, ground := Ground.phase }, { on := 14, ground := Ground.phase }, { on := 15, ground := Ground.phase }], guard := none }) (v := .bool true) rfl (by kernel_rfl) (by kernel_rfl) (by kernel_rfl) (fun _ _ _ h => h) (Or.inl ⟨by rfl, fun w' _ => by rfl⟩) hh18 ?_
                simp only [Act.put, List.setIfInBounds_toArray, List.set_cons_zero, List.set_cons_succ]
                refine wpAnyH_done (by kernel_rfl) ?_ _
                have H19 := Lib.hid hh18
                go_upto_region 5 with fail
                refine wp_region_held_drew (S := LS w [(w.heap.size, lim v0, 24), (w.heap.size + 1, lim v1, 24), (w.heap.size + 1 + 1, lim v2, 24)]) (by kernel_rfl) H19.out.drew (fun hst20 => ?_)
                refine wpAnyH_take (i := 0) (oi := { dst := some 32, op := Op.load 24 (Operand.tmp 3), type := 24, pos := "law.go:100", after := #[], guard := none }) (v := .agg (Ls (lim v0))) rfl (by kernel_rfl) (by kernel_rfl) (by kernel_rfl) (fun _ _ _ h => h) (lload24 (by rfl) _ rfl (w.heap.size) (lim v0) rfl (by simp) rfl) hst20 ?_
                simp only [Act.put, List.setIfInBounds_toArray, List.set_cons_zero, List.set_cons_succ]
                refine wpAnyH_take (i := 1) (oi := { dst := some 33, op := Op.load 24 (Operand.tmp 4), type := 24, pos := "law.go:100", after := #[], guard := none }) (v := .agg (Ls (lim v1))) rfl (by kernel_rfl) (by kernel_rfl) (by kernel_rfl) (fun _ _ _ h => h) (lload24 (by rfl) _ rfl (w.heap.size + 1) (lim v1) rfl (by simp) rfl) hst20 ?_
                simp only [Act.put, List.setIfInBounds_toArray, List.set_cons_zero, List.set_cons_succ]
                refine wpAnyH_take (i := 3) (oi := { dst := some 35, op := Op.load 24 (Operand.tmp 5), type := 24, pos := "law.go:100", after := #[], guard := none }) (v := .agg (Ls (lim v2))) rfl (by kernel_rfl) (by kernel_rfl) (by kernel_rfl) (fun _ _ _ h => h) (lload24 (by rfl) _ rfl (w.heap.size + 1 + 1) (lim v2) rfl (by simp) rfl) hst20 ?_
                simp only [Act.put, List.setIfInBounds_toArray, List.set_cons_zero, List.set_cons_succ]
                refine wpAnyH_take (i := 5) (oi := { dst := some 37, op := Op.load 24 (Operand.tmp 3), type := 24, pos := "law.go:100", after := #[], guard := none }) (v := .agg (Ls (lim v0))) rfl (by kernel_rfl) (by kernel_rfl) (by kernel_rfl) (fun _ _ _ h => h) (lload24 (by rfl) _ rfl (w.heap.size) (lim v0) rfl (by simp) rfl) hst20 ?_
                simp only [Act.put, List.setIfInBounds_toArray, List.set_cons_zero, List.set_cons_succ]
                refine wpAnyH_take (i := 6) (oi := { dst := some 38, op := Op.load 24 (Operand.tmp 4), type := 24, pos := "law.go:100", after := #[], guard := none }) (v := .agg (Ls (lim v1))) rfl (by kernel_rfl) (by kernel_rfl) (by kernel_rfl) (fun _ _ _ h => h) (lload24 (by rfl) _ rfl (w.heap.size + 1) (lim v1) rfl (by simp) rfl) hst20 ?_
                simp only [Act.put, List.setIfInBounds_toArray, List.set_cons_zero, List.set_cons_succ]
                refine wpAnyH_take (i := 7) (oi := { dst := some 39, op := Op.load 24 (Operand.tmp 5), type := 24, pos := "law.go:100", after := #[], guard := none }) (v := .agg (Ls (lim v2))) rfl (by kernel_rfl) (by kernel_rfl) (by kernel_rfl) (fun _ _ _ h => h) (lload24 (by rfl) _ rfl (w.heap.size + 1 + 1) (lim v2) rfl (by simp) rfl) hst20 ?_
                simp only [Act.put, List.setIfInBounds_toArray, List.set_cons_zero, List.set_cons_succ]
                refine wpAnyH_ready (rs := [2]) (by kernel_rfl) (by simp) ?_
                refine AllReadyH.cons (o := { dst := some 34, op := Op.call { callee := Callee.value (Operand.func 25), args := #[Operand.tmp 32, Operand.tmp 33], argTypes := #[27, 27] }, type := 27, pos := "law.go:100", after := #[{ on := 0, ground := Ground.data }, { on := 1, ground := Ground.data }], guard := none }) rfl (fun K hK => ?_) ?_
                · go_simp
                  refine (cAdd N0.out N1.out _).mono ?_
                  rintro e w21 ⟨rfl, b⟩
                  have N22 := Lib.hid (N.add N0.out N1.out)
                  refine hK.out _ _ (hst20.call b) (fun hh23 => ?_)
                  clear hK K b
                  refine wpAnyH_ready (rs := [4]) (by kernel_rfl) (by simp) ?_
                  refine AllReadyH.cons (o := { dst := some 36, op := Op.call { callee := Callee.value (Operand.func 25), args := #[Operand.tmp 34, Operand.tmp 35], argTypes := #[27, 27] }, type := 27, pos := "law.go:100", after := #[{ on := 2, ground := Ground.data }, { on := 3, ground := Ground.data }, { on := 2, ground := Ground.chain }], guard := none }) rfl (fun K hK => ?_) ?_
                  · go_simp
                    refine (cAdd N22.out N2.out _).mono ?_
                    rintro e w24 ⟨rfl, b⟩
                    have N25 := Lib.hid (N.add N22.out N2.out)
                    refine hK.out _ _ (hh23.call b) (fun hh26 => ?_)
                    clear hK K b
                    refine wpAnyH_ready (rs := [8]) (by kernel_rfl) (by simp) ?_
                    refine AllReadyH.cons (o := { dst := some 40, op := Op.call { callee := Callee.value (Operand.func 25), args := #[Operand.tmp 38, Operand.tmp 39], argTypes := #[27, 27] }, type := 27, pos := "law.go:100", after := #[{ on := 6, ground := Ground.data }, { on := 7, ground := Ground.data }, { on := 4, ground := Ground.chain }], guard := none }) rfl (fun K hK => ?_) ?_
                    · go_simp
                      refine (cAdd N1.out N2.out _).mono ?_
                      rintro e w27 ⟨rfl, b⟩
                      have N28 := Lib.hid (N.add N1.out N2.out)
                      refine hK.out _ _ (hh26.call b) (fun hh29 => ?_)
                      clear hK K b
                      refine wpAnyH_ready (rs := [9]) (by kernel_rfl) (by simp) ?_
                      refine AllReadyH.cons (o := { dst := some 41, op := Op.call { callee := Callee.value (Operand.func 25), args := #[Operand.tmp 37, Operand.tmp 40], argTypes := #[27, 27] }, type := 27, pos := "law.go:100", after := #[{ on := 5, ground := Ground.data }, { on := 8, ground := Ground.data }, { on := 8, ground := Ground.chain }], guard := none }) rfl (fun K hK => ?_) ?_
                      · go_simp
                        refine (cAdd N0.out N28.out _).mono ?_
                        rintro e w30 ⟨rfl, b⟩
                        have N31 := Lib.hid (N.add N0.out N28.out)
                        refine hK.out _ _ (hh29.call b) (fun hh32 => ?_)
                        clear hK K b
                        refine wpAnyH_ready (rs := [10]) (by kernel_rfl) (by simp) ?_
                        refine AllReadyH.cons (o := { dst := some 42, op := Op.call { callee := Callee.value (Operand.func 38), args := #[Operand.tmp 36, Operand.tmp 41], argTypes := #[27, 27] }, type := 4, pos := "law.go:100", after := #[{ on := 4, ground := Ground.data }, { on := 9, ground := Ground.data }, { on := 9, ground := Ground.chain }], guard := none }) rfl (fun K hK => ?_) ?_
                        · go_simp
                          refine (cSame N25.out N31.out (by grind) _).mono ?_
                          rintro e w33 ⟨rfl, b⟩
                          refine hK.out _ _ (hh32.call b) (fun hh34 => ?_)
                          clear hK K b
                          refine wpAnyH_take (i := 11) (oi := { dst := some 43, op := Op.move (Operand.tmp 42), type := 4, pos := "law.go:100", after := #[{ on := 10, ground := Ground.data }, { on := 10, ground := Ground.chain }], guard := none }) (v := .bool true) rfl (by kernel_rfl) (by kernel_rfl) (by kernel_rfl) (fun _ _ _ h => h) (Or.inl ⟨by rfl, fun w' _ => by rfl⟩) hh34 ?_
                          simp only [Act.put, List.setIfInBounds_toArray, List.set_cons_zero, List.set_cons_succ]
                          refine wpAnyH_take (i := 12) (oi := { dst := some 44, op := Op.load 24 (Operand.tmp 3), type := 24, pos := "law.go:100", after := #[{ on := 11, ground := Ground.guard }], guard := some (11, true) }) (v := .agg (Ls (lim v0))) rfl (by kernel_rfl) (by kernel_rfl) (by kernel_rfl) (fun _ _ _ h => h) (lload24 (by rfl) _ rfl (w.heap.size) (lim v0) rfl (by simp) rfl) hh34 ?_
                          simp only [Act.put, List.setIfInBounds_toArray, List.set_cons_zero, List.set_cons_succ]
                          refine wpAnyH_take (i := 13) (oi := { dst := some 45, op := Op.load 24 (Operand.tmp 4), type := 24, pos := "law.go:100", after := #[{ on := 11, ground := Ground.guard }], guard := some (11, true) }) (v := .agg (Ls (lim v1))) rfl (by kernel_rfl) (by kernel_rfl) (by kernel_rfl) (fun _ _ _ h => h) (lload24 (by rfl) _ rfl (w.heap.size + 1) (lim v1) rfl (by simp) rfl) hh34 ?_
                          simp only [Act.put, List.setIfInBounds_toArray, List.set_cons_zero, List.set_cons_succ]
                          refine wpAnyH_take (i := 15) (oi := { dst := some 47, op := Op.load 24 (Operand.tmp 5), type := 24, pos := "law.go:100", after := #[{ on := 11, ground := Ground.guard }], guard := some (11, true) }) (v := .agg (Ls (lim v2))) rfl (by kernel_rfl) (by kernel_rfl) (by kernel_rfl) (fun _ _ _ h => h) (lload24 (by rfl) _ rfl (w.heap.size + 1 + 1) (lim v2) rfl (by simp) rfl) hh34 ?_
                          simp only [Act.put, List.setIfInBounds_toArray, List.set_cons_zero, List.set_cons_succ]
                          refine wpAnyH_take (i := 17) (oi := { dst := some 49, op := Op.load 24 (Operand.tmp 3), type := 24, pos := "law.go:100", after := #[{ on := 11, ground := Ground.guard }], guard := some (11, true) }) (v := .agg (Ls (lim v0))) rfl (by kernel_rfl) (by kernel_rfl) (by kernel_rfl) (fun _ _ _ h => h) (lload24 (by rfl) _ rfl (w.heap.size) (lim v0) rfl (by simp) rfl) hh34 ?_
                          simp only [Act.put, List.setIfInBounds_toArray, List.set_cons_zero, List.set_cons_succ]
                          refine wpAnyH_take (i := 18) (oi := { dst := some 50, op := Op.load 24 (Operand.tmp 4), type := 24, pos := "law.go:100", after := #[{ on := 11, ground := Ground.guard }], guard := some (11, true) }) (v := .agg (Ls (lim v1))) rfl (by kernel_rfl) (by kernel_rfl) (by kernel_rfl) (fun _ _ _ h => h) (lload24 (by rfl) _ rfl (w.heap.size + 1) (lim v1) rfl (by simp) rfl) hh34 ?_
                          simp only [Act.put, List.setIfInBounds_toArray, List.set_cons_zero, List.set_cons_succ]
                          refine wpAnyH_take (i := 19) (oi := { dst := some 51, op := Op.load 24 (Operand.tmp 5), type := 24, pos := "law.go:100", after := #[{ on := 11, ground := Ground.guard }], guard := some (11, true) }) (v := .agg (Ls (lim v2))) rfl (by kernel_rfl) (by kernel_rfl) (by kernel_rfl) (fun _ _ _ h => h) (lload24 (by rfl) _ rfl (w.heap.size + 1 + 1) (lim v2) rfl (by simp) rfl) hh34 ?_
                          simp only [Act.put, List.setIfInBounds_toArray, List.set_cons_zero, List.set_cons_succ]
                          refine wpAnyH_ready (rs := [14]) (by kernel_rfl) (by simp) ?_
                          refine AllReadyH.cons (o := { dst := some 46, op := Op.call { callee := Callee.value (Operand.func 29), args := #[Operand.tmp 44, Operand.tmp 45], argTypes := #[27, 27] }, type := 27, pos := "law.go:100", after := #[{ on := 12, ground := Ground.data }, { on := 13, ground := Ground.data }, { on := 11, ground := Ground.chain }, { on := 11, ground := Ground.guard }], guard := some (11, true) }) rfl (fun K hK => ?_) ?_
                          · go_simp
                            refine (cMul N0.out N1.out _).mono ?_
                            rintro e w35 ⟨rfl, b⟩
                            have N36 := Lib.hid (N.mul N0.out N1.out)
                            refine hK.out _ _ (hh34.call b) (fun hh37 => ?_)
                            clear hK K b
                            refine wpAnyH_ready (rs := [16]) (by kernel_rfl) (by simp) ?_
                            refine AllReadyH.cons (o := { dst := some 48, op := Op.call { callee := Callee.value (Operand.func 29), args := #[Operand.tmp 46, Operand.tmp 47], argTypes := #[27, 27] }, type := 27, pos := "law.go:100", after := #[{ on := 14, ground := Ground.data }, { on := 15, ground := Ground.data }, { on := 14, ground := Ground.chain }, { on := 11, ground := Ground.guard }], guard := some (11, true) }) rfl (fun K hK => ?_) ?_
                            · go_simp
                              refine (cMul N36.out N2.out _).mono ?_
                              rintro e w38 ⟨rfl, b⟩
                              have N39 := Lib.hid (N.mul N36.out N2.out)
                              refine hK.out _ _ (hh37.call b) (fun hh40 => ?_)
                              clear hK K b
                              refine wpAnyH_ready (rs := [20]) (by kernel_rfl) (by simp) ?_
                              refine AllReadyH.cons (o := { dst := some 52, op := Op.call { callee := Callee.value (Operand.func 29), args := #[Operand.tmp 50, Operand.tmp 51], argTypes := #[27, 27] }, type := 27, pos := "law.go:100", after := #[{ on := 18, ground := Ground.data }, { on := 19, ground := Ground.data }, { on := 16, ground := Ground.chain }, { on := 11, ground := Ground.guard }], guard := some (11, true) }) rfl (fun K hK => ?_) ?_
                              · go_simp
                                refine (cMul N1.out N2.out _).mono ?_
                                rintro e w41 ⟨rfl, b⟩
                                have N42 := Lib.hid (N.mul N1.out N2.out)
                                refine hK.out _ _ (hh40.call b) (fun hh43 => ?_)
                                clear hK K b
                                refine wpAnyH_ready (rs := [21]) (by kernel_rfl) (by simp) ?_
                                refine AllReadyH.cons (o := { dst := some 53, op := Op.call { callee := Callee.value (Operand.func 29), args := #[Operand.tmp 49, Operand.tmp 52], argTypes := #[27, 27] }, type := 27, pos := "law.go:100", after := #[{ on := 17, ground := Ground.data }, { on := 20, ground := Ground.data }, { on := 20, ground := Ground.chain }, { on := 11, ground := Ground.guard }], guard := some (11, true) }) rfl (fun K hK => ?_) ?_
                                · go_simp
                                  refine (cMul N0.out N42.out _).mono ?_
                                  rintro e w44 ⟨rfl, b⟩
                                  have N45 := Lib.hid (N.mul N0.out N42.out)
                                  refine hK.out _ _ (hh43.call b) (fun hh46 => ?_)
                                  clear hK K b
                                  refine wpAnyH_ready (rs := [22]) (by kernel_rfl) (by simp) ?_
                                  refine AllReadyH.cons (o := { dst := some 54, op := Op.call { callee := Callee.value (Operand.func 38), args := #[Operand.tmp 48, Operand.tmp 53], argTypes := #[27, 27] }, type := 4, pos := "law.go:100", after := #[{ on := 16, ground := Ground.data }, { on := 21, ground := Ground.data }, { on := 21, ground := Ground.chain }, { on := 11, ground := Ground.guard }], guard := some (11, true) }) rfl (fun K hK => ?_) ?_
                                  · go_simp
                                    refine (cSame N39.out N45.out (by grind) _).mono ?_
                                    rintro e w47 ⟨rfl, b⟩
                                    refine hK.out _ _ (hh46.call b) (fun hh48 => ?_)
                                    clear hK K b
                                    refine wpAnyH_take (i := 23) (oi := { dst := some 55, op := Op.pick (Operand.tmp 43) (Operand.tmp 54) (Operand.const (Value.bool false)), type := 4, pos := "law.go:100", after := #[{ on := 11, ground := Ground.data }, { on := 22, ground := Ground.data }], guard := none }) (v := .bool true) rfl (by kernel_rfl) (by kernel_rfl) (by kernel_rfl) (fun _ _ _ h => h) (Or.inl ⟨by rfl, fun w' _ => by rfl⟩) hh48 ?_
                                    simp only [Act.put, List.setIfInBounds_toArray, List.set_cons_zero, List.set_cons_succ]
                                    refine wpAnyH_take (i := 24) (oi := { dst := some 9, op := Op.assign (Operand.tmp 55), type := 4, pos := "law.go:100", after := #[{ on := 23, ground := Ground.data }, { on := 22, ground := Ground.chain }, { on := 0, ground := Ground.phase }, { on := 1, ground := Ground.phase }, { on := 2, ground := Ground.phase }, { on := 3, ground := Ground.phase }, { on := 4, ground := Ground.phase }, { on := 5, ground := Ground.phase }, { on := 6, ground := Ground.phase }, { on := 7, ground := Ground.phase }, { on := 8, ground := Ground.phase }, { on := 9, ground := Ground.phase }, { on := 10, ground := Ground.phase }, { on := 11, ground := Ground.phase }, { on := 12, ground := Ground.phase }, { on := 13, ground := Ground.phase }, { on := 14, ground := Ground.phase }, { on := 15, ground := Ground.phase }, { on := 16, ground := Ground.phase }, { on := 17, ground := Ground.phase }, { on := 18, ground := Ground.phase }, { on := 19, ground := Ground.phase }, { on := 20, ground := Ground.phase }, { on := 21, ground := Ground.phase }, { on := 22, ground := Ground.phase }, { on := 23, ground := Ground.phase }], guard := none }) (v := .bool true) rfl (by kernel_rfl) (by kernel_rfl) (by kernel_rfl) (fun _ _ _ h => h) (Or.inl ⟨by rfl, fun w' _ => by rfl⟩) hh48 ?_
                                    simp only [Act.put, List.setIfInBounds_toArray, List.set_cons_zero, List.set_cons_succ]
                                    refine wpAnyH_done (by kernel_rfl) ?_ _
                                    have H49 := Lib.hid hh48
                                    go_upto_region 6 with fail
                                    refine wp_region_held_drew (S := LS w [(w.heap.size, lim v0, 24), (w.heap.size + 1, lim v1, 24), (w.heap.size + 1 + 1, lim v2, 24)]) (by kernel_rfl) H49.out.drew (fun hst50 => ?_)
                                    refine wpAnyH_take (i := 0) (oi := { dst := some 56, op := Op.load 24 (Operand.tmp 3), type := 24, pos := "law.go:101", after := #[], guard := none }) (v := .agg (Ls (lim v0))) rfl (by kernel_rfl) (by kernel_rfl) (by kernel_rfl) (fun _ _ _ h => h) (lload24 (by rfl) _ rfl (w.heap.size) (lim v0) rfl (by simp) rfl) hst50 ?_
                                    simp only [Act.put, List.setIfInBounds_toArray, List.set_cons_zero, List.set_cons_succ]
                                    refine wpAnyH_take (i := 1) (oi := { dst := some 57, op := Op.load 24 (Operand.tmp 4), type := 24, pos := "law.go:101", after := #[], guard := none }) (v := .agg (Ls (lim v1))) rfl (by kernel_rfl) (by kernel_rfl) (by kernel_rfl) (fun _ _ _ h => h) (lload24 (by rfl) _ rfl (w.heap.size + 1) (lim v1) rfl (by simp) rfl) hst50 ?_
                                    simp only [Act.put, List.setIfInBounds_toArray, List.set_cons_zero, List.set_cons_succ]
                                    refine wpAnyH_take (i := 2) (oi := { dst := some 58, op := Op.load 24 (Operand.tmp 5), type := 24, pos := "law.go:101", after := #[], guard := none }) (v := .agg (Ls (lim v2))) rfl (by kernel_rfl) (by kernel_rfl) (by kernel_rfl) (fun _ _ _ h => h) (lload24 (by rfl) _ rfl (w.heap.size + 1 + 1) (lim v2) rfl (by simp) rfl) hst50 ?_
                                    simp only [Act.put, List.setIfInBounds_toArray, List.set_cons_zero, List.set_cons_succ]
                                    refine wpAnyH_take (i := 5) (oi := { dst := some 61, op := Op.load 24 (Operand.tmp 3), type := 24, pos := "law.go:101", after := #[], guard := none }) (v := .agg (Ls (lim v0))) rfl (by kernel_rfl) (by kernel_rfl) (by kernel_rfl) (fun _ _ _ h => h) (lload24 (by rfl) _ rfl (w.heap.size) (lim v0) rfl (by simp) rfl) hst50 ?_
                                    simp only [Act.put, List.setIfInBounds_toArray, List.set_cons_zero, List.set_cons_succ]
                                    refine wpAnyH_take (i := 6) (oi := { dst := some 62, op := Op.load 24 (Operand.tmp 4), type := 24, pos := "law.go:101", after := #[], guard := none }) (v := .agg (Ls (lim v1))) rfl (by kernel_rfl) (by kernel_rfl) (by kernel_rfl) (fun _ _ _ h => h) (lload24 (by rfl) _ rfl (w.heap.size + 1) (lim v1) rfl (by simp) rfl) hst50 ?_
                                    simp only [Act.put, List.setIfInBounds_toArray, List.set_cons_zero, List.set_cons_succ]
                                    refine wpAnyH_take (i := 8) (oi := { dst := some 64, op := Op.load 24 (Operand.tmp 3), type := 24, pos := "law.go:101", after := #[], guard := none }) (v := .agg (Ls (lim v0))) rfl (by kernel_rfl) (by kernel_rfl) (by kernel_rfl) (fun _ _ _ h => h) (lload24 (by rfl) _ rfl (w.heap.size) (lim v0) rfl (by simp) rfl) hst50 ?_
                                    simp only [Act.put, List.setIfInBounds_toArray, List.set_cons_zero, List.set_cons_succ]
                                    refine wpAnyH_take (i := 9) (oi := { dst := some 65, op := Op.load 24 (Operand.tmp 5), type := 24, pos := "law.go:101", after := #[], guard := none }) (v := .agg (Ls (lim v2))) rfl (by kernel_rfl) (by kernel_rfl) (by kernel_rfl) (fun _ _ _ h => h) (lload24 (by rfl) _ rfl (w.heap.size + 1 + 1) (lim v2) rfl (by simp) rfl) hst50 ?_
                                    simp only [Act.put, List.setIfInBounds_toArray, List.set_cons_zero, List.set_cons_succ]
                                    refine wpAnyH_ready (rs := [3]) (by kernel_rfl) (by simp) ?_
                                    refine AllReadyH.cons (o := { dst := some 59, op := Op.call { callee := Callee.value (Operand.func 25), args := #[Operand.tmp 57, Operand.tmp 58], argTypes := #[27, 27] }, type := 27, pos := "law.go:101", after := #[{ on := 1, ground := Ground.data }, { on := 2, ground := Ground.data }], guard := none }) rfl (fun K hK => ?_) ?_
                                    · go_simp
                                      refine (cAdd N1.out N2.out _).mono ?_
                                      rintro e w51 ⟨rfl, b⟩
                                      have N52 := Lib.hid (N.add N1.out N2.out)
                                      refine hK.out _ _ (hst50.call b) (fun hh53 => ?_)
                                      clear hK K b
                                      refine wpAnyH_ready (rs := [4]) (by kernel_rfl) (by simp) ?_
                                      refine AllReadyH.cons (o := { dst := some 60, op := Op.call { callee := Callee.value (Operand.func 29), args := #[Operand.tmp 56, Operand.tmp 59], argTypes := #[27, 27] }, type := 27, pos := "law.go:101", after := #[{ on := 0, ground := Ground.data }, { on := 3, ground := Ground.data }, { on := 3, ground := Ground.chain }], guard := none }) rfl (fun K hK => ?_) ?_
                                      · go_simp
                                        refine (cMul N0.out N52.out _).mono ?_
                                        rintro e w54 ⟨rfl, b⟩
                                        have N55 := Lib.hid (N.mul N0.out N52.out)
                                        refine hK.out _ _ (hh53.call b) (fun hh56 => ?_)
                                        clear hK K b
                                        refine wpAnyH_ready (rs := [7]) (by kernel_rfl) (by simp) ?_
                                        refine AllReadyH.cons (o := { dst := some 63, op := Op.call { callee := Callee.value (Operand.func 29), args := #[Operand.tmp 61, Operand.tmp 62], argTypes := #[27, 27] }, type := 27, pos := "law.go:101", after := #[{ on := 5, ground := Ground.data }, { on := 6, ground := Ground.data }, { on := 4, ground := Ground.chain }], guard := none }) rfl (fun K hK => ?_) ?_
                                        · go_simp
                                          refine (cMul N0.out N1.out _).mono ?_
                                          rintro e w57 ⟨rfl, b⟩
                                          have N58 := Lib.hid (N.mul N0.out N1.out)
                                          refine hK.out _ _ (hh56.call b) (fun hh59 => ?_)
                                          clear hK K b
                                          refine wpAnyH_ready (rs := [10]) (by kernel_rfl) (by simp) ?_
                                          refine AllReadyH.cons (o := { dst := some 66, op := Op.call { callee := Callee.value (Operand.func 29), args := #[Operand.tmp 64, Operand.tmp 65], argTypes := #[27, 27] }, type := 27, pos := "law.go:101", after := #[{ on := 8, ground := Ground.data }, { on := 9, ground := Ground.data }, { on := 7, ground := Ground.chain }], guard := none }) rfl (fun K hK => ?_) ?_
                                          · go_simp
                                            refine (cMul N0.out N2.out _).mono ?_
                                            rintro e w60 ⟨rfl, b⟩
                                            have N61 := Lib.hid (N.mul N0.out N2.out)
                                            refine hK.out _ _ (hh59.call b) (fun hh62 => ?_)
                                            clear hK K b
                                            refine wpAnyH_ready (rs := [11]) (by kernel_rfl) (by simp) ?_
                                            refine AllReadyH.cons (o := { dst := some 67, op := Op.call { callee := Callee.value (Operand.func 25), args := #[Operand.tmp 63, Operand.tmp 66], argTypes := #[27, 27] }, type := 27, pos := "law.go:101", after := #[{ on := 7, ground := Ground.data }, { on := 10, ground := Ground.data }, { on := 10, ground := Ground.chain }], guard := none }) rfl (fun K hK => ?_) ?_
                                            · go_simp
                                              refine (cAdd N58.out N61.out _).mono ?_
                                              rintro e w63 ⟨rfl, b⟩
                                              have N64 := Lib.hid (N.add N58.out N61.out)
                                              refine hK.out _ _ (hh62.call b) (fun hh65 => ?_)
                                              clear hK K b
                                              refine wpAnyH_ready (rs := [12]) (by kernel_rfl) (by simp) ?_
                                              refine AllReadyH.cons (o := { dst := some 68, op := Op.call { callee := Callee.value (Operand.func 38), args := #[Operand.tmp 60, Operand.tmp 67], argTypes := #[27, 27] }, type := 4, pos := "law.go:101", after := #[{ on := 4, ground := Ground.data }, { on := 11, ground := Ground.data }, { on := 11, ground := Ground.chain }], guard := none }) rfl (fun K hK => ?_) ?_
                                              · go_simp
                                                refine (cSame N55.out N64.out (by grind) _).mono ?_
                                                rintro e w66 ⟨rfl, b⟩
                                                refine hK.out _ _ (hh65.call b) (fun hh67 => ?_)
                                                clear hK K b
                                                refine wpAnyH_take (i := 13) (oi := { dst := some 10, op := Op.assign (Operand.tmp 68), type := 4, pos := "law.go:101", after := #[{ on := 12, ground := Ground.data }, { on := 12, ground := Ground.chain }, { on := 0, ground := Ground.phase }, { on := 1, ground := Ground.phase }, { on := 2, ground := Ground.phase }, { on := 3, ground := Ground.phase }, { on := 4, ground := Ground.phase }, { on := 5, ground := Ground.phase }, { on := 6, ground := Ground.phase }, { on := 7, ground := Ground.phase }, { on := 8, ground := Ground.phase }, { on := 9, ground := Ground.phase }, { on := 10, ground := Ground.phase }, { on := 11, ground := Ground.phase }, { on := 12, ground := Ground.phase }], guard := none }) (v := .bool true) rfl (by kernel_rfl) (by kernel_rfl) (by kernel_rfl) (fun _ _ _ h => h) (Or.inl ⟨by rfl, fun w' _ => by rfl⟩) hh67 ?_
                                                simp only [Act.put, List.setIfInBounds_toArray, List.set_cons_zero, List.set_cons_succ]
                                                refine wpAnyH_done (by kernel_rfl) ?_ _
                                                have H68 := Lib.hid hh67
                                                go_upto_region 7 with fail
                                                refine wp_region_held_drew (S := LS w [(w.heap.size, lim v0, 24), (w.heap.size + 1, lim v1, 24), (w.heap.size + 1 + 1, lim v2, 24)]) (by kernel_rfl) H68.out.drew (fun hst69 => ?_)
                                                refine wpAnyH_take (i := 0) (oi := { dst := some 69, op := Op.load 24 (Operand.tmp 3), type := 24, pos := "law.go:102", after := #[], guard := none }) (v := .agg (Ls (lim v0))) rfl (by kernel_rfl) (by kernel_rfl) (by kernel_rfl) (fun _ _ _ h => h) (lload24 (by rfl) _ rfl (w.heap.size) (lim v0) rfl (by simp) rfl) hst69 ?_
                                                simp only [Act.put, List.setIfInBounds_toArray, List.set_cons_zero, List.set_cons_succ]
                                                refine wpAnyH_take (i := 1) (oi := { dst := some 70, op := Op.load 24 (Operand.tmp 4), type := 24, pos := "law.go:102", after := #[], guard := none }) (v := .agg (Ls (lim v1))) rfl (by kernel_rfl) (by kernel_rfl) (by kernel_rfl) (fun _ _ _ h => h) (lload24 (by rfl) _ rfl (w.heap.size + 1) (lim v1) rfl (by simp) rfl) hst69 ?_
                                                simp only [Act.put, List.setIfInBounds_toArray, List.set_cons_zero, List.set_cons_succ]
                                                refine wpAnyH_take (i := 3) (oi := { dst := some 72, op := Op.load 24 (Operand.tmp 4), type := 24, pos := "law.go:102", after := #[], guard := none }) (v := .agg (Ls (lim v1))) rfl (by kernel_rfl) (by kernel_rfl) (by kernel_rfl) (fun _ _ _ h => h) (lload24 (by rfl) _ rfl (w.heap.size + 1) (lim v1) rfl (by simp) rfl) hst69 ?_
                                                simp only [Act.put, List.setIfInBounds_toArray, List.set_cons_zero, List.set_cons_succ]
                                                refine wpAnyH_take (i := 5) (oi := { dst := some 74, op := Op.load 24 (Operand.tmp 3), type := 24, pos := "law.go:102", after := #[], guard := none }) (v := .agg (Ls (lim v0))) rfl (by kernel_rfl) (by kernel_rfl) (by kernel_rfl) (fun _ _ _ h => h) (lload24 (by rfl) _ rfl (w.heap.size) (lim v0) rfl (by simp) rfl) hst69 ?_
                                                simp only [Act.put, List.setIfInBounds_toArray, List.set_cons_zero, List.set_cons_succ]
                                                refine wpAnyH_ready (rs := [2]) (by kernel_rfl) (by simp) ?_
                                                refine AllReadyH.cons (o := { dst := some 71, op := Op.call { callee := Callee.value (Operand.func 27), args := #[Operand.tmp 69, Operand.tmp 70], argTypes := #[27, 27] }, type := 27, pos := "law.go:102", after := #[{ on := 0, ground := Ground.data }, { on := 1, ground := Ground.data }], guard := none }) rfl (fun K hK => ?_) ?_
                                                · go_simp
                                                  refine (cSub N0.out N1.out _).mono ?_
                                                  rintro e w70 ⟨rfl, b⟩
                                                  have N71 := Lib.hid (N.sub N0.out N1.out)
                                                  refine hK.out _ _ (hst69.call b) (fun hh72 => ?_)
                                                  clear hK K b
                                                  refine wpAnyH_ready (rs := [4]) (by kernel_rfl) (by simp) ?_
                                                  refine AllReadyH.cons (o := { dst := some 73, op := Op.call { callee := Callee.value (Operand.func 25), args := #[Operand.tmp 71, Operand.tmp 72], argTypes := #[27, 27] }, type := 27, pos := "law.go:102", after := #[{ on := 2, ground := Ground.data }, { on := 3, ground := Ground.data }, { on := 2, ground := Ground.chain }], guard := none }) rfl (fun K hK => ?_) ?_
                                                  · go_simp
                                                    refine (cAdd N71.out N1.out _).mono ?_
                                                    rintro e w73 ⟨rfl, b⟩
                                                    have N74 := Lib.hid (N.add N71.out N1.out)
                                                    refine hK.out _ _ (hh72.call b) (fun hh75 => ?_)
                                                    clear hK K b
                                                    refine wpAnyH_ready (rs := [6]) (by kernel_rfl) (by simp) ?_
                                                    refine AllReadyH.cons (o := { dst := some 75, op := Op.call { callee := Callee.value (Operand.func 38), args := #[Operand.tmp 73, Operand.tmp 74], argTypes := #[27, 27] }, type := 4, pos := "law.go:102", after := #[{ on := 4, ground := Ground.data }, { on := 5, ground := Ground.data }, { on := 4, ground := Ground.chain }], guard := none }) rfl (fun K hK => ?_) ?_
                                                    · go_simp
                                                      refine (cSame N74.out N0.out (by grind) _).mono ?_
                                                      rintro e w76 ⟨rfl, b⟩
                                                      refine hK.out _ _ (hh75.call b) (fun hh77 => ?_)
                                                      clear hK K b
                                                      refine wpAnyH_take (i := 7) (oi := { dst := some 76, op := Op.move (Operand.tmp 75), type := 4, pos := "law.go:102", after := #[{ on := 6, ground := Ground.data }, { on := 6, ground := Ground.chain }], guard := none }) (v := .bool true) rfl (by kernel_rfl) (by kernel_rfl) (by kernel_rfl) (fun _ _ _ h => h) (Or.inl ⟨by rfl, fun w' _ => by rfl⟩) hh77 ?_
                                                      simp only [Act.put, List.setIfInBounds_toArray, List.set_cons_zero, List.set_cons_succ]
                                                      refine wpAnyH_take (i := 8) (oi := { dst := some 77, op := Op.load 24 (Operand.tmp 3), type := 24, pos := "law.go:102", after := #[{ on := 7, ground := Ground.guard }], guard := some (7, true) }) (v := .agg (Ls (lim v0))) rfl (by kernel_rfl) (by kernel_rfl) (by kernel_rfl) (fun _ _ _ h => h) (lload24 (by rfl) _ rfl (w.heap.size) (lim v0) rfl (by simp) rfl) hh77 ?_
                                                      simp only [Act.put, List.setIfInBounds_toArray, List.set_cons_zero, List.set_cons_succ]
                                                      refine wpAnyH_take (i := 9) (oi := { dst := some 78, op := Op.load 24 (Operand.tmp 3), type := 24, pos := "law.go:102", after := #[{ on := 7, ground := Ground.guard }], guard := some (7, true) }) (v := .agg (Ls (lim v0))) rfl (by kernel_rfl) (by kernel_rfl) (by kernel_rfl) (fun _ _ _ h => h) (lload24 (by rfl) _ rfl (w.heap.size) (lim v0) rfl (by simp) rfl) hh77 ?_
                                                      simp only [Act.put, List.setIfInBounds_toArray, List.set_cons_zero, List.set_cons_succ]
                                                      refine wpAnyH_take (i := 11) (oi := { dst := some 80, op := Op.build 27 #[], type := 27, pos := "law.go:102", after := #[{ on := 7, ground := Ground.guard }], guard := some (7, true) }) (v := .agg (Ls (lim 0))) rfl (by kernel_rfl) (by kernel_rfl) (by kernel_rfl) (fun _ _ _ h => h) (Or.inl ⟨by rfl, fun w' _ => by kernel_rfl⟩) hh77 ?_
                                                      simp only [Act.put, List.setIfInBounds_toArray, List.set_cons_zero, List.set_cons_succ]
                                                      refine wpAnyH_ready (rs := [10]) (by kernel_rfl) (by simp) ?_
                                                      refine AllReadyH.cons (o := { dst := some 79, op := Op.call { callee := Callee.value (Operand.func 27), args := #[Operand.tmp 77, Operand.tmp 78], argTypes := #[27, 27] }, type := 27, pos := "law.go:102", after := #[{ on := 8, ground := Ground.data }, { on := 9, ground := Ground.data }, { on := 7, ground := Ground.chain }, { on := 7, ground := Ground.guard }], guard := some (7, true) }) rfl (fun K hK => ?_) ?_
                                                      · go_simp
                                                        refine (cSub N0.out N0.out _).mono ?_
                                                        rintro e w78 ⟨rfl, b⟩
                                                        have N79 := Lib.hid (N.sub N0.out N0.out)
                                                        refine hK.out _ _ (hh77.call b) (fun hh80 => ?_)
                                                        clear hK K b
                                                        refine wpAnyH_ready (rs := [12]) (by kernel_rfl) (by simp) ?_
                                                        refine AllReadyH.cons (o := { dst := some 81, op := Op.call { callee := Callee.value (Operand.func 38), args := #[Operand.tmp 79, Operand.tmp 80], argTypes := #[27, 27] }, type := 4, pos := "law.go:102", after := #[{ on := 10, ground := Ground.data }, { on := 11, ground := Ground.data }, { on := 10, ground := Ground.chain }, { on := 7, ground := Ground.guard }], guard := some (7, true) }) rfl (fun K hK => ?_) ?_
                                                        · go_simp
                                                          refine (cSame N79.out N.zero (by grind) _).mono ?_
                                                          rintro e w81 ⟨rfl, b⟩
                                                          refine hK.out _ _ (hh80.call b) (fun hh82 => ?_)
                                                          clear hK K b
                                                          refine wpAnyH_take (i := 13) (oi := { dst := some 82, op := Op.pick (Operand.tmp 76) (Operand.tmp 81) (Operand.const (Value.bool false)), type := 4, pos := "law.go:102", after := #[{ on := 7, ground := Ground.data }, { on := 12, ground := Ground.data }], guard := none }) (v := .bool true) rfl (by kernel_rfl) (by kernel_rfl) (by kernel_rfl) (fun _ _ _ h => h) (Or.inl ⟨by rfl, fun w' _ => by rfl⟩) hh82 ?_
                                                          simp only [Act.put, List.setIfInBounds_toArray, List.set_cons_zero, List.set_cons_succ]
                                                          refine wpAnyH_take (i := 14) (oi := { dst := some 11, op := Op.assign (Operand.tmp 82), type := 4, pos := "law.go:102", after := #[{ on := 13, ground := Ground.data }, { on := 12, ground := Ground.chain }, { on := 0, ground := Ground.phase }, { on := 1, ground := Ground.phase }, { on := 2, ground := Ground.phase }, { on := 3, ground := Ground.phase }, { on := 4, ground := Ground.phase }, { on := 5, ground := Ground.phase }, { on := 6, ground := Ground.phase }, { on := 7, ground := Ground.phase }, { on := 8, ground := Ground.phase }, { on := 9, ground := Ground.phase }, { on := 10, ground := Ground.phase }, { on := 11, ground := Ground.phase }, { on := 12, ground := Ground.phase }, { on := 13, ground := Ground.phase }], guard := none }) (v := .bool true) rfl (by kernel_rfl) (by kernel_rfl) (by kernel_rfl) (fun _ _ _ h => h) (Or.inl ⟨by rfl, fun w' _ => by rfl⟩) hh82 ?_
                                                          simp only [Act.put, List.setIfInBounds_toArray, List.set_cons_zero, List.set_cons_succ]
                                                          refine wpAnyH_done (by kernel_rfl) ?_ _
                                                          have H83 := Lib.hid hh82
                                                          go_upto_region 8 with fail
                                                          refine wp_region_held_drew (S := LS w [(w.heap.size, lim v0, 24), (w.heap.size + 1, lim v1, 24), (w.heap.size + 1 + 1, lim v2, 24)]) (by kernel_rfl) H83.out.drew (fun hst84 => ?_)
                                                          refine wpAnyH_take (i := 0) (oi := { dst := some 83, op := Op.load 24 (Operand.tmp 3), type := 24, pos := "law.go:103", after := #[], guard := none }) (v := .agg (Ls (lim v0))) rfl (by kernel_rfl) (by kernel_rfl) (by kernel_rfl) (fun _ _ _ h => h) (lload24 (by rfl) _ rfl (w.heap.size) (lim v0) rfl (by simp) rfl) hst84 ?_
                                                          simp only [Act.put, List.setIfInBounds_toArray, List.set_cons_zero, List.set_cons_succ]
                                                          refine wpAnyH_take (i := 3) (oi := { dst := some 86, op := Op.load 24 (Operand.tmp 3), type := 24, pos := "law.go:103", after := #[], guard := none }) (v := .agg (Ls (lim v0))) rfl (by kernel_rfl) (by kernel_rfl) (by kernel_rfl) (fun _ _ _ h => h) (lload24 (by rfl) _ rfl (w.heap.size) (lim v0) rfl (by simp) rfl) hst84 ?_
                                                          simp only [Act.put, List.setIfInBounds_toArray, List.set_cons_zero, List.set_cons_succ]
                                                          refine wpAnyH_ready (rs := [1]) (by kernel_rfl) (by simp) ?_
                                                          refine AllReadyH.cons (o := { dst := some 84, op := Op.call { callee := Callee.value (Operand.func 39), args := #[Operand.tmp 83], argTypes := #[27] }, type := 22, pos := "law.go:103", after := #[{ on := 0, ground := Ground.data }], guard := none }) rfl (fun K hK => ?_) ?_
                                                          · go_simp
                                                            refine (cEncode N0.out _).mono ?_
                                                            rintro e w85 ⟨A86, c87, rfl, s88, b⟩
                                                            have C89 := Lib.hid s88
                                                            clear s88
                                                            refine hK.out _ _ (hst84.call b) (fun hh90 => ?_)
                                                            clear hK K b
                                                            refine wpAnyH_ready (rs := [2]) (by kernel_rfl) (by simp) ?_
                                                            refine AllReadyH.cons (o := { dst := some 85, op := Op.call { callee := Callee.value (Operand.func 22), args := #[Operand.tmp 84], argTypes := #[22] }, type := 27, pos := "law.go:103", after := #[{ on := 1, ground := Ground.data }, { on := 1, ground := Ground.chain }], guard := none }) rfl (fun K hK => ?_) ?_
                                                            · go_simp
                                                              refine (cDecodeD v0 _ C89.out).mono ?_
                                                              rintro e w91 ⟨rfl, b⟩
                                                              have N92 := Lib.hid (N.decD N0.out)
                                                              have C93 := Lib.hid (Kd.C_below C89.out b)
                                                              refine hK.out _ _ (hh90.call b) (fun hh94 => ?_)
                                                              clear hK K b
                                                              refine wpAnyH_ready (rs := [4]) (by kernel_rfl) (by simp) ?_
                                                              refine AllReadyH.cons (o := { dst := some 87, op := Op.call { callee := Callee.value (Operand.func 38), args := #[Operand.tmp 85, Operand.tmp 86], argTypes := #[27, 27] }, type := 4, pos := "law.go:103", after := #[{ on := 2, ground := Ground.data }, { on := 3, ground := Ground.data }, { on := 2, ground := Ground.chain }], guard := none }) rfl (fun K hK => ?_) ?_
                                                              · go_simp
                                                                refine (cSame N92.out N0.out (by grind) _).mono ?_
                                                                rintro e w95 ⟨rfl, b⟩
                                                                have C96 := Lib.hid (Kd.C_below C93.out b)
                                                                refine hK.out _ _ (hh94.call b) (fun hh97 => ?_)
                                                                clear hK K b
                                                                refine wpAnyH_take (i := 5) (oi := { dst := some 12, op := Op.assign (Operand.tmp 87), type := 4, pos := "law.go:103", after := #[{ on := 4, ground := Ground.data }, { on := 4, ground := Ground.chain }, { on := 0, ground := Ground.phase }, { on := 1, ground := Ground.phase }, { on := 2, ground := Ground.phase }, { on := 3, ground := Ground.phase }, { on := 4, ground := Ground.phase }], guard := none }) (v := .bool true) rfl (by kernel_rfl) (by kernel_rfl) (by kernel_rfl) (fun _ _ _ h => h) (Or.inl ⟨by rfl, fun w' _ => by rfl⟩) hh97 ?_
                                                                simp only [Act.put, List.setIfInBounds_toArray, List.set_cons_zero, List.set_cons_succ]
                                                                refine wpAnyH_done (by kernel_rfl) ?_ _
                                                                have H98 := Lib.hid hh97
                                                                go_upto_region 9 with fail
                                                                go_wp2_with (first | (refine load24w (by rfl) _ rfl (w.heap.size) (lim v0) rfl (H98.out.get _ _ _ (by simp)) rfl ?_) | (refine load24w (by rfl) _ rfl (w.heap.size + 1) (lim v1) rfl (H98.out.get _ _ _ (by simp)) rfl ?_) | (refine load24w (by rfl) _ rfl (w.heap.size + 1 + 1) (lim v2) rfl (H98.out.get _ _ _ (by simp)) rfl ?_))
                                                                go_ret
                                                                exact ⟨rfl, H98.out.below⟩
                                                              exact AllReadyH.nil
                                                            exact AllReadyH.nil
                                                          exact AllReadyH.nil
                                                        exact AllReadyH.nil
                                                      exact AllReadyH.nil
                                                    exact AllReadyH.nil
                                                  exact AllReadyH.nil
                                                exact AllReadyH.nil
                                              exact AllReadyH.nil
                                            exact AllReadyH.nil
                                          exact AllReadyH.nil
                                        exact AllReadyH.nil
                                      exact AllReadyH.nil
                                    exact AllReadyH.nil
                                  exact AllReadyH.nil
                                exact AllReadyH.nil
                              exact AllReadyH.nil
                            exact AllReadyH.nil
                          exact AllReadyH.nil
                        exact AllReadyH.nil
                      exact AllReadyH.nil
                    exact AllReadyH.nil
                  exact AllReadyH.nil
                exact AllReadyH.nil
              exact AllReadyH.nil
            exact AllReadyH.nil
          exact AllReadyH.nil
        exact AllReadyH.nil
      exact AllReadyH.nil
    exact AllReadyH.nil

end Go.Proofs.Ytfklojheogidpaa
