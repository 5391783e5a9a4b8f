import Derived.Test.YtfklojheogidpaaKit3
set_option linter.unusedVariables false
set_option linter.unusedSimpArgs false
namespace Go.Proofs.Ytfklojheogidpaa
open Go.RowKit Go.Proofs.YtfklojheogidpaaW.PrintWords Go.Proofs.YtfklojheogidpaaW.PrintLast Go.Proofs.YtfklojheogidpaaW.PrintMore

set_option maxHeartbeats 4000000 in
set_option maxRecDepth 100000 in
theorem walk_FieldTimes (w : World) (l0 : List Int) (a1 : Int)
    (hl0 : l0.length = 4) (hw0 : ∀ x ∈ l0, 0 ≤ x ∧ x ≤ 18446744073709551615) (b1 : 0 ≤ a1 ∧ a1 ≤ 4294967295) :
    Calls Try.prog 6 #[.agg (nums .u64 l0).toArray, .int .u32 a1] w fun e w' => e = .returned (.bool true) ∧ Below w.heap.size w w' := by
  obtain ⟨v0, r0, e0⟩ := arr_E l0 hl0 hw0
  have N0 := Lib.hid (N.of r0)
  rw [e0]
  clear e0 r0 hl0 hw0
  have B := Lib.hid (⟨b1.1, by have := b1.2; omega⟩ : 0 ≤ a1 ∧ a1 < 4294967296)
  clear b1
  go_enter Try.func6, Try.ntmps6
  go_upto_region 0 with fail
  go_cut [2, 4] (fun s2 s4 wx => s2 = .pointer (some ⟨w.heap.size, 0, none⟩) ∧ s4 = .bool false ∧ LS w [(w.heap.size, lim v0, 24)] wx)
  case first =>
    go_wp2_with fail
    go_meet
    exact ⟨rfl, rfl, LS.one _⟩
  case rest =>
    obtain ⟨rfl, rfl, hS⟩ := hcut
    have H0 := Lib.hid hS
    have HW := Lib.hid hS.below
    clear hS
    go_wp2_with fail
    refine (awake_any _).mono ?_
    rintro e w1 ⟨rfl, b⟩
    have H1 := Lib.hid (H0.out.call b)
    clear b H0
    go_upto_region 4 with fail
    go_upto_region 5 with (first | (refine load24w (by rfl) _ rfl (w.heap.size) (lim v0) rfl (H1.out.get _ _ _ (by simp)) rfl ?_))
    refine (cNum N0.out _).mono ?_
    rintro e w2 ⟨A3, c4, rfl, s5, b⟩
    have S6 := Lib.hid s5
    clear s5
    have H7 := Lib.hid (H1.out.call b)
    clear b H1
    go_upto_region 5 with (first | (refine load24w (by rfl) _ rfl (w.heap.size) (lim v0) rfl (H7.out.get _ _ _ (by simp)) rfl ?_))
    go_wp2_with (first | (refine load24w (by rfl) _ rfl (w.heap.size) (lim v0) rfl (H7.out.get _ _ _ (by simp)) rfl ?_))
    refine (cTimes N0.out a1 B.out.1 B.out.2 _).mono ?_
    rintro e w8 ⟨rfl, b⟩
    have N9 := Lib.hid (N.times N0.out B.out.1 B.out.2)
    have S10 := Lib.hid (S6.out.below b)
    have H11 := Lib.hid (H7.out.call b)
    clear b H7
    go_wp2_with (first | (refine load24w (by rfl) _ rfl (w.heap.size) (lim v0) rfl (H11.out.get _ _ _ (by simp)) rfl ?_))
    rw [w64 (n := a1) (by have := B.out.1; have := B.out.2; omega)]
    refine (rSmall a1 B.out.1 (by have := B.out.2; omega) _).mono ?_
    rintro e w12 ⟨A13, c14, rfl, s15, b⟩
    have S16 := Lib.hid (S10.out.below b)
    have S17 := Lib.hid s15
    clear s15
    have H18 := Lib.hid (H11.out.call b)
    clear b H11
    go_wp2_with (first | (refine load24w (by rfl) _ rfl (w.heap.size) (lim v0) rfl (H18.out.get _ _ _ (by simp)) rfl ?_))
    refine (rMul _ _ _ S16.out S17.out).mono ?_
    rintro e w19 ⟨A20, c21, rfl, s22, b⟩
    have S23 := Lib.hid (S16.out.below b)
    have S24 := Lib.hid (S17.out.below b)
    have S25 := Lib.hid s22
    clear s22
    have H26 := Lib.hid (H18.out.call b)
    clear b H18
    go_wp2_with (first | (refine load24w (by rfl) _ rfl (w.heap.size) (lim v0) rfl (H26.out.get _ _ _ (by simp)) rfl ?_))
    refine (cIs N9.out _ S25.out (by grind)).mono ?_
    rintro e w27 ⟨rfl, b⟩
    have S28 := Lib.hid (S23.out.below b)
    have S29 := Lib.hid (S24.out.below b)
    have S30 := Lib.hid (S25.out.below b)
    have H31 := Lib.hid (H26.out.call b)
    clear b H26
    go_wp2_with (first | (refine load24w (by rfl) _ rfl (w.heap.size) (lim v0) rfl (H31.out.get _ _ _ (by simp)) rfl ?_))
    refine (cSquare N0.out _).mono ?_
    rintro e w32 ⟨rfl, b⟩
    have N33 := Lib.hid (N.mul N0.out N0.out)
    have S34 := Lib.hid (S28.out.below b)
    have S35 := Lib.hid (S29.out.below b)
    have S36 := Lib.hid (S30.out.below b)
    have H37 := Lib.hid (H31.out.call b)
    clear b H31
    go_wp2_with (first | (refine load24w (by rfl) _ rfl (w.heap.size) (lim v0) rfl (H37.out.get _ _ _ (by simp)) rfl ?_))
    refine (rMul _ _ _ S34.out S34.out).mono ?_
    rintro e w38 ⟨A39, c40, rfl, s41, b⟩
    have S42 := Lib.hid (S34.out.below b)
    have S43 := Lib.hid (S35.out.below b)
    have S44 := Lib.hid (S36.out.below b)
    have S45 := Lib.hid s41
    clear s41
    have H46 := Lib.hid (H37.out.call b)
    clear b H37
    go_wp2_with (first | (refine load24w (by rfl) _ rfl (w.heap.size) (lim v0) rfl (H46.out.get _ _ _ (by simp)) rfl ?_))
    refine (cIs N33.out _ S45.out (by grind)).mono ?_
    rintro e w47 ⟨rfl, b⟩
    have S48 := Lib.hid (S42.out.below b)
    have S49 := Lib.hid (S43.out.below b)
    have S50 := Lib.hid (S44.out.below b)
    have S51 := Lib.hid (S45.out.below b)
    have H52 := Lib.hid (H46.out.call b)
    clear b H46
    go_wp2_with (first | (refine load24w (by rfl) _ rfl (w.heap.size) (lim v0) rfl (H52.out.get _ _ _ (by simp)) rfl ?_))
    go_ret
    exact ⟨rfl, H52.out.below⟩

end Go.Proofs.Ytfklojheogidpaa
