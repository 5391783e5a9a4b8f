import Derived.Test.YtfklojheogidpaaKit2
set_option linter.unusedVariables false
set_option linter.unusedSimpArgs false
namespace Go.Proofs.Ytfklojheogidpaa
open Go.RowKit Go.Proofs.YtfklojheogidpaaW.PrintWords Go.Proofs.YtfklojheogidpaaW.PrintLast Go.Proofs.YtfklojheogidpaaW.PrintMore

set_option maxHeartbeats 4000000 in
set_option maxRecDepth 100000 in
theorem walk_FieldMuls (w : World) (l0 : List Int) (l1 : List Int)
    (hl0 : l0.length = 4) (hw0 : ∀ x ∈ l0, 0 ≤ x ∧ x ≤ 18446744073709551615) (hl1 : l1.length = 4) (hw1 : ∀ x ∈ l1, 0 ≤ x ∧ x ≤ 18446744073709551615) :
    Calls Try.prog 5 #[.agg (nums .u64 l0).toArray, .agg (nums .u64 l1).toArray] w fun e w' => e = .returned (.bool true) ∧ Below w.heap.size w w' := by
  obtain ⟨v0, r0, e0⟩ := arr_E l0 hl0 hw0
  have N0 := Lib.hid (N.of r0)
  rw [e0]
  clear e0 r0 hl0 hw0
  obtain ⟨v1, r1, e1⟩ := arr_E l1 hl1 hw1
  have N1 := Lib.hid (N.of r1)
  rw [e1]
  clear e1 r1 hl1 hw1
  go_enter Try.func5, Try.ntmps5
  go_upto_region 0 with fail
  go_cut [2, 3, 4] (fun s2 s3 s4 wx => s2 = .pointer (some ⟨w.heap.size, 0, none⟩) ∧ s3 = .pointer (some ⟨w.heap.size + 1, 0, none⟩) ∧ s4 = .bool false ∧ LS w [(w.heap.size, lim v0, 24), (w.heap.size + 1, lim v1, 24)] wx)
  case first =>
    go_wp2_with fail
    go_meet
    exact ⟨rfl, rfl, rfl, LS.two _ _⟩
  case rest =>
    obtain ⟨rfl, rfl, rfl, hS⟩ := hcut
    have H0 := Lib.hid hS
    clear hS
    go_wp2_with fail
    refine (awake_any _).mono ?_
    rintro e w1 ⟨rfl, b⟩
    have H1 := Lib.hid (H0.out.call b)
    clear b H0
    go_upto_region 4 with fail
    refine wp_region_held_drew (S := LS w [(w.heap.size, lim v0, 24), (w.heap.size + 1, lim v1, 24)]) (by kernel_rfl) H1.out.drew (fun hst2 => ?_)
    refine wpAnyH_take (i := 0) (oi := { dst := some 9, op := Op.load 24 (Operand.tmp 2), type := 24, pos := "law.go:54", after := #[], guard := none }) (v := .agg (Ls (lim v0))) rfl (by kernel_rfl) (by kernel_rfl) (by kernel_rfl) (fun _ _ _ h => h) (lload24 (by rfl) _ rfl (w.heap.size) (lim v0) rfl (by simp) rfl) hst2 ?_
    simp only [Act.put, List.setIfInBounds_toArray, List.set_cons_zero, List.set_cons_succ]
    refine wpAnyH_take (i := 1) (oi := { dst := some 10, op := Op.load 24 (Operand.tmp 3), type := 24, pos := "law.go:54", after := #[], guard := none }) (v := .agg (Ls (lim v1))) rfl (by kernel_rfl) (by kernel_rfl) (by kernel_rfl) (fun _ _ _ h => h) (lload24 (by rfl) _ rfl (w.heap.size + 1) (lim v1) rfl (by simp) rfl) hst2 ?_
    simp only [Act.put, List.setIfInBounds_toArray, List.set_cons_zero, List.set_cons_succ]
    refine wpAnyH_take (i := 3) (oi := { dst := some 12, op := Op.load 24 (Operand.tmp 2), type := 24, pos := "law.go:54", after := #[], guard := none }) (v := .agg (Ls (lim v0))) rfl (by kernel_rfl) (by kernel_rfl) (by kernel_rfl) (fun _ _ _ h => h) (lload24 (by rfl) _ rfl (w.heap.size) (lim v0) rfl (by simp) rfl) hst2 ?_
    simp only [Act.put, List.setIfInBounds_toArray, List.set_cons_zero, List.set_cons_succ]
    refine wpAnyH_take (i := 5) (oi := { dst := some 14, op := Op.load 24 (Operand.tmp 3), type := 24, pos := "law.go:54", after := #[], guard := none }) (v := .agg (Ls (lim v1))) rfl (by kernel_rfl) (by kernel_rfl) (by kernel_rfl) (fun _ _ _ h => h) (lload24 (by rfl) _ rfl (w.heap.size + 1) (lim v1) rfl (by simp) rfl) hst2 ?_
    simp only [Act.put, List.setIfInBounds_toArray, List.set_cons_zero, List.set_cons_succ]
    refine wpAnyH_ready (rs := [2]) (by kernel_rfl) (by simp) ?_
    refine AllReadyH.cons (o := { dst := some 11, op := Op.call { callee := Callee.value (Operand.func 29), args := #[Operand.tmp 9, Operand.tmp 10], argTypes := #[27, 27] }, type := 27, pos := "law.go:54", after := #[{ on := 0, ground := Ground.data }, { on := 1, ground := Ground.data }], guard := none }) rfl (fun K hK => ?_) ?_
    · go_simp
      refine (cMul N0.out N1.out _).mono ?_
      rintro e w3 ⟨rfl, b⟩
      have N4 := Lib.hid (N.mul N0.out N1.out)
      refine hK.out _ _ (hst2.call b) (fun hh5 => ?_)
      clear hK K b
      refine wpAnyH_ready (rs := [4]) (by kernel_rfl) (by simp) ?_
      refine AllReadyH.cons (o := { dst := some 13, op := Op.call { callee := Callee.value (Operand.func 24), args := #[Operand.tmp 12], argTypes := #[24] }, type := 29, pos := "law.go:54", after := #[{ on := 3, ground := Ground.data }, { on := 2, ground := Ground.chain }], guard := none }) rfl (fun K hK => ?_) ?_
      · go_simp
        refine (cNum N0.out _).mono ?_
        rintro e w6 ⟨A7, c8, rfl, s9, b⟩
        have S10 := Lib.hid s9
        clear s9
        refine hK.out _ _ (hh5.call b) (fun hh11 => ?_)
        clear hK K b
        refine wpAnyH_ready (rs := [6]) (by kernel_rfl) (by simp) ?_
        refine AllReadyH.cons (o := { dst := some 15, op := Op.call { callee := Callee.value (Operand.func 24), args := #[Operand.tmp 14], argTypes := #[24] }, type := 29, pos := "law.go:54", after := #[{ on := 5, ground := Ground.data }, { on := 4, ground := Ground.chain }], guard := none }) rfl (fun K hK => ?_) ?_
        · go_simp
          refine (cNum N1.out _).mono ?_
          rintro e w12 ⟨A13, c14, rfl, s15, b⟩
          have S16 := Lib.hid (S10.out.below b)
          have S17 := Lib.hid s15
          clear s15
          refine hK.out _ _ (hh11.call b) (fun hh18 => ?_)
          clear hK K b
          refine wpAnyH_ready (rs := [7]) (by kernel_rfl) (by simp) ?_
          refine AllReadyH.cons (o := { dst := some 16, op := Op.call { callee := Callee.value (Operand.func 30), args := #[Operand.tmp 13, Operand.tmp 15], argTypes := #[29, 29] }, type := 29, pos := "law.go:54", after := #[{ on := 4, ground := Ground.data }, { on := 6, ground := Ground.data }, { on := 6, ground := Ground.chain }], guard := none }) rfl (fun K hK => ?_) ?_
          · go_simp
            refine (rMul _ _ _ S16.out S17.out).mono ?_
            rintro e w19 ⟨A20, c21, rfl, s22, b⟩
            have S23 := Lib.hid (S16.out.below b)
            have S24 := Lib.hid (S17.out.below b)
            have S25 := Lib.hid s22
            clear s22
            refine hK.out _ _ (hh18.call b) (fun hh26 => ?_)
            clear hK K b
            refine wpAnyH_ready (rs := [8]) (by kernel_rfl) (by simp) ?_
            refine AllReadyH.cons (o := { dst := some 17, op := Op.call { callee := Callee.value (Operand.func 21), args := #[Operand.tmp 11, Operand.tmp 16], argTypes := #[27, 29] }, type := 4, pos := "law.go:54", after := #[{ on := 2, ground := Ground.data }, { on := 7, ground := Ground.data }, { on := 7, ground := Ground.chain }], guard := none }) rfl (fun K hK => ?_) ?_
            · go_simp
              refine (cIs N4.out _ S25.out (by grind)).mono ?_
              rintro e w27 ⟨rfl, b⟩
              have S28 := Lib.hid (S23.out.below b)
              have S29 := Lib.hid (S24.out.below b)
              have S30 := Lib.hid (S25.out.below b)
              refine hK.out _ _ (hh26.call b) (fun hh31 => ?_)
              clear hK K b
              refine wpAnyH_take (i := 9) (oi := { dst := some 4, op := Op.assign (Operand.tmp 17), type := 4, pos := "law.go:54", after := #[{ on := 8, ground := Ground.data }, { on := 8, ground := Ground.chain }, { on := 0, ground := Ground.phase }, { on := 1, ground := Ground.phase }, { on := 2, ground := Ground.phase }, { on := 3, ground := Ground.phase }, { on := 4, ground := Ground.phase }, { on := 5, ground := Ground.phase }, { on := 6, ground := Ground.phase }, { on := 7, ground := Ground.phase }, { on := 8, ground := Ground.phase }], guard := none }) (v := .bool true) rfl (by kernel_rfl) (by kernel_rfl) (by kernel_rfl) (fun _ _ _ h => h) (Or.inl ⟨by rfl, fun w' _ => by rfl⟩) hh31 ?_
              simp only [Act.put, List.setIfInBounds_toArray, List.set_cons_zero, List.set_cons_succ]
              refine wpAnyH_done (by kernel_rfl) ?_ _
              have H32 := Lib.hid hh31
              go_wp2_with fail
              go_ret
              exact ⟨rfl, H32.out.below⟩
            exact AllReadyH.nil
          exact AllReadyH.nil
        exact AllReadyH.nil
      exact AllReadyH.nil
    exact AllReadyH.nil

end Go.Proofs.Ytfklojheogidpaa
