import Derived.Test.YtfklojheogidpaaKit3
set_option linter.unusedVariables false
set_option linter.unusedSimpArgs false
namespace Go.Proofs.Ytfklojheogidpaa
open Go.RowKit Go.Proofs.YtfklojheogidpaaW.PrintWords Go.Proofs.YtfklojheogidpaaW.PrintLast Go.Proofs.YtfklojheogidpaaW.PrintMore

set_option maxHeartbeats 4000000 in
set_option maxRecDepth 100000 in
theorem walk_FieldCodes (w : World) (A0 : Option Addr) (c0 : Nat) (l0 : List Int) (l1 : List Int)
    (hC0 : Kd.C (Kd.int .u8) w A0 l0.length l0) (hc0 : l0.length ≤ c0) (hy0 : l0.length * 1 ≤ 140737488351232) (hw0 : ∀ x ∈ l0, 0 ≤ x ∧ x ≤ 255) (hl1 : l1.length = 4) (hw1 : ∀ x ∈ l1, 0 ≤ x ∧ x ≤ 18446744073709551615) :
    Calls Try.prog 3 #[.slice A0 l0.length c0, .agg (nums .u64 l1).toArray] w fun e w' => e = .returned (.bool true) ∧ Below w.heap.size w w' := by
  have C0 := Lib.hid hC0
  have LB := Lib.hid (fun x hx => (⟨(hw0 x hx).1, by have := (hw0 x hx).2; omega⟩ : Byte x))
  have CF := Lib.hid hc0
  clear hC0 hw0 hc0 hy0
  obtain ⟨v1, r1, e1⟩ := arr_E l1 hl1 hw1
  have N1 := Lib.hid (N.of r1)
  rw [e1]
  clear e1 r1 hl1 hw1
  go_enter Try.func3, Try.ntmps3
  go_upto_region 0 with fail
  go_cut [3, 4] (fun s3 s4 wx => s3 = .pointer (some ⟨w.heap.size, 0, none⟩) ∧ s4 = .bool false ∧ LS w [(w.heap.size, lim v1, 24)] wx)
  case first =>
    go_wp2_with fail
    go_meet
    exact ⟨rfl, rfl, LS.one _⟩
  case rest =>
    obtain ⟨rfl, rfl, hS⟩ := hcut
    have H0 := Lib.hid hS
    have HW := Lib.hid hS.below
    clear hS
    go_wp2_with fail
    refine (awake_any _).mono ?_
    rintro e w1 ⟨rfl, b⟩
    have H1 := Lib.hid (H0.out.call b)
    have C1x := Lib.hid (Kd.C_below (Kd.C_below C0.out HW.out) b)
    clear b H0
    go_upto_region 4 with fail
    refine wp_region_held_drew (S := LS w [(w.heap.size, lim v1, 24)]) (by kernel_rfl) H1.out.drew (fun hst2 => ?_)
    have C3 := Lib.hid (Kd.C_below C1x.out (Below.refl _ _).drew)
    refine wpAnyH_take (i := 0) (oi := { dst := some 9, op := Op.move (Operand.tmp 0), type := 22, pos := "law.go:34", after := #[], guard := none }) (v := .slice A0 l0.length c0) rfl (by kernel_rfl) (by kernel_rfl) (by kernel_rfl) (fun _ _ _ h => h) (Or.inl ⟨by rfl, fun w' _ => by rfl⟩) hst2 ?_
    simp only [Act.put, List.setIfInBounds_toArray, List.set_cons_zero, List.set_cons_succ]
    refine wpAnyH_take (i := 2) (oi := { dst := some 11, op := Op.move (Operand.tmp 0), type := 22, pos := "law.go:34", after := #[], guard := none }) (v := .slice A0 l0.length c0) rfl (by kernel_rfl) (by kernel_rfl) (by kernel_rfl) (fun _ _ _ h => h) (Or.inl ⟨by rfl, fun w' _ => by rfl⟩) hst2 ?_
    simp only [Act.put, List.setIfInBounds_toArray, List.set_cons_zero, List.set_cons_succ]
    refine wpAnyH_ready (rs := [1]) (by kernel_rfl) (by simp) ?_
    refine AllReadyH.cons (o := { dst := some 10, op := Op.call { callee := Callee.value (Operand.func 22), args := #[Operand.tmp 9], argTypes := #[22] }, type := 27, pos := "law.go:34", after := #[{ on := 0, ground := Ground.data }], guard := none }) rfl (fun K hK => ?_) ?_
    · go_simp
      refine (cDecode l0 LB.out _ C3.out).mono ?_
      rintro e w4 ⟨rfl, b⟩
      have N5 := Lib.hid (N.dec l0)
      have C6 := Lib.hid (Kd.C_below C3.out b)
      refine hK.out _ _ (hst2.call b) (fun hh7 => ?_)
      clear hK K b
      refine wpAnyH_ready (rs := [3]) (by kernel_rfl) (by simp) ?_
      refine AllReadyH.cons (o := { dst := some 12, op := Op.call { callee := Callee.value (Operand.func 23), args := #[Operand.tmp 11], argTypes := #[22] }, type := 29, pos := "law.go:34", after := #[{ on := 2, ground := Ground.data }, { on := 1, ground := Ground.chain }], guard := none }) rfl (fun K hK => ?_) ?_
      · go_simp
        refine (rDecode l0 LB.out _ C6.out CF.out).mono ?_
        rintro e w8 ⟨A9, c10, rfl, s11, b⟩
        have C12 := Lib.hid (Kd.C_below C6.out b)
        have S13 := Lib.hid s11
        clear s11
        refine hK.out _ _ (hh7.call b) (fun hh14 => ?_)
        clear hK K b
        refine wpAnyH_ready (rs := [4]) (by kernel_rfl) (by simp) ?_
        refine AllReadyH.cons (o := { dst := some 13, op := Op.call { callee := Callee.value (Operand.func 21), args := #[Operand.tmp 10, Operand.tmp 12], argTypes := #[27, 29] }, type := 4, pos := "law.go:34", after := #[{ on := 1, ground := Ground.data }, { on := 3, ground := Ground.data }, { on := 3, ground := Ground.chain }], guard := none }) rfl (fun K hK => ?_) ?_
        · go_simp
          refine (cIs N5.out _ S13.out (by grind)).mono ?_
          rintro e w15 ⟨rfl, b⟩
          have S16 := Lib.hid (S13.out.below b)
          have C17 := Lib.hid (Kd.C_below C12.out b)
          refine hK.out _ _ (hh14.call b) (fun hh18 => ?_)
          clear hK K b
          refine wpAnyH_take (i := 5) (oi := { dst := some 14, op := Op.move (Operand.tmp 13), type := 4, pos := "law.go:34", after := #[{ on := 4, ground := Ground.data }, { on := 4, ground := Ground.chain }], guard := none }) (v := .bool true) rfl (by kernel_rfl) (by kernel_rfl) (by kernel_rfl) (fun _ _ _ h => h) (Or.inl ⟨by rfl, fun w' _ => by rfl⟩) hh18 ?_
          simp only [Act.put, List.setIfInBounds_toArray, List.set_cons_zero, List.set_cons_succ]
          refine wpAnyH_take (i := 6) (oi := { dst := some 15, op := Op.load 24 (Operand.tmp 3), type := 24, pos := "law.go:34", after := #[{ on := 5, ground := Ground.guard }], guard := some (5, true) }) (v := .agg (Ls (lim v1))) rfl (by kernel_rfl) (by kernel_rfl) (by kernel_rfl) (fun _ _ _ h => h) (lload24 (by rfl) _ rfl (w.heap.size) (lim v1) rfl (by simp) rfl) hh18 ?_
          simp only [Act.put, List.setIfInBounds_toArray, List.set_cons_zero, List.set_cons_succ]
          refine wpAnyH_take (i := 7) (oi := { dst := some 16, op := Op.load 24 (Operand.tmp 3), type := 24, pos := "law.go:34", after := #[{ on := 5, ground := Ground.guard }], guard := some (5, true) }) (v := .agg (Ls (lim v1))) rfl (by kernel_rfl) (by kernel_rfl) (by kernel_rfl) (fun _ _ _ h => h) (lload24 (by rfl) _ rfl (w.heap.size) (lim v1) rfl (by simp) rfl) hh18 ?_
          simp only [Act.put, List.setIfInBounds_toArray, List.set_cons_zero, List.set_cons_succ]
          refine wpAnyH_ready (rs := [8]) (by kernel_rfl) (by simp) ?_
          refine AllReadyH.cons (o := { dst := some 17, op := Op.call { callee := Callee.value (Operand.func 24), args := #[Operand.tmp 16], argTypes := #[24] }, type := 29, pos := "law.go:34", after := #[{ on := 7, ground := Ground.data }, { on := 5, ground := Ground.chain }, { on := 5, ground := Ground.guard }], guard := some (5, true) }) rfl (fun K hK => ?_) ?_
          · go_simp
            refine (cNum N1.out _).mono ?_
            rintro e w19 ⟨A20, c21, rfl, s22, b⟩
            have S23 := Lib.hid (S16.out.below b)
            have C24 := Lib.hid (Kd.C_below C17.out b)
            have S25 := Lib.hid s22
            clear s22
            refine hK.out _ _ (hh18.call b) (fun hh26 => ?_)
            clear hK K b
            refine wpAnyH_ready (rs := [9]) (by kernel_rfl) (by simp) ?_
            refine AllReadyH.cons (o := { dst := some 18, op := Op.call { callee := Callee.value (Operand.func 21), args := #[Operand.tmp 15, Operand.tmp 17], argTypes := #[27, 29] }, type := 4, pos := "law.go:34", after := #[{ on := 6, ground := Ground.data }, { on := 8, ground := Ground.data }, { on := 8, ground := Ground.chain }, { on := 5, ground := Ground.guard }], guard := some (5, true) }) rfl (fun K hK => ?_) ?_
            · go_simp
              refine (cIs N1.out _ S25.out (by grind)).mono ?_
              rintro e w27 ⟨rfl, b⟩
              have S28 := Lib.hid (S23.out.below b)
              have S29 := Lib.hid (S25.out.below b)
              have C30 := Lib.hid (Kd.C_below C24.out b)
              refine hK.out _ _ (hh26.call b) (fun hh31 => ?_)
              clear hK K b
              refine wpAnyH_take (i := 10) (oi := { dst := some 19, op := Op.pick (Operand.tmp 14) (Operand.tmp 18) (Operand.const (Value.bool false)), type := 4, pos := "law.go:34", after := #[{ on := 5, ground := Ground.data }, { on := 9, ground := Ground.data }], guard := none }) (v := .bool true) rfl (by kernel_rfl) (by kernel_rfl) (by kernel_rfl) (fun _ _ _ h => h) (Or.inl ⟨by rfl, fun w' _ => by rfl⟩) hh31 ?_
              simp only [Act.put, List.setIfInBounds_toArray, List.set_cons_zero, List.set_cons_succ]
              refine wpAnyH_take (i := 11) (oi := { dst := some 4, op := Op.assign (Operand.tmp 19), type := 4, pos := "law.go:34", after := #[{ on := 10, ground := Ground.data }, { on := 9, ground := Ground.chain }, { on := 0, ground := Ground.phase }, { on := 1, ground := Ground.phase }, { on := 2, ground := Ground.phase }, { on := 3, ground := Ground.phase }, { on := 4, ground := Ground.phase }, { on := 5, ground := Ground.phase }, { on := 6, ground := Ground.phase }, { on := 7, ground := Ground.phase }, { on := 8, ground := Ground.phase }, { on := 9, ground := Ground.phase }, { on := 10, ground := Ground.phase }], guard := none }) (v := .bool true) rfl (by kernel_rfl) (by kernel_rfl) (by kernel_rfl) (fun _ _ _ h => h) (Or.inl ⟨by rfl, fun w' _ => by rfl⟩) hh31 ?_
              simp only [Act.put, List.setIfInBounds_toArray, List.set_cons_zero, List.set_cons_succ]
              refine wpAnyH_done (by kernel_rfl) ?_ _
              have H32 := Lib.hid hh31
              go_wp2_with fail
              go_ret
              exact ⟨rfl, H32.out.below⟩
            exact AllReadyH.nil
          exact AllReadyH.nil
        exact AllReadyH.nil
      exact AllReadyH.nil
    exact AllReadyH.nil

end Go.Proofs.Ytfklojheogidpaa
