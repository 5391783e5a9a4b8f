import Derived.Test.YtfklojheogidpaaKit3
set_option linter.unusedVariables false
set_option linter.unusedSimpArgs false
namespace Go.Proofs.Ytfklojheogidpaa
open Go.RowKit Go.Proofs.YtfklojheogidpaaW.PrintWords Go.Proofs.YtfklojheogidpaaW.PrintLast Go.Proofs.YtfklojheogidpaaW.PrintMore

set_option maxHeartbeats 4000000 in
set_option maxRecDepth 100000 in
theorem walk_FieldAdds (w : World) (l0 : List Int) (l1 : List Int)
    (hl0 : l0.length = 4) (hw0 : ∀ x ∈ l0, 0 ≤ x ∧ x ≤ 18446744073709551615) (hl1 : l1.length = 4) (hw1 : ∀ x ∈ l1, 0 ≤ x ∧ x ≤ 18446744073709551615) :
    Calls Try.prog 4 #[.agg (nums .u64 l0).toArray, .agg (nums .u64 l1).toArray] w fun e w' => e = .returned (.bool true) ∧ Below w.heap.size w w' := by
  obtain ⟨v0, r0, e0⟩ := arr_E l0 hl0 hw0
  have N0 := Lib.hid (N.of r0)
  rw [e0]
  clear e0 r0 hl0 hw0
  obtain ⟨v1, r1, e1⟩ := arr_E l1 hl1 hw1
  have N1 := Lib.hid (N.of r1)
  rw [e1]
  clear e1 r1 hl1 hw1
  go_enter Try.func4, Try.ntmps4
  go_upto_region 0 with fail
  go_cut [2, 3, 4] (fun s2 s3 s4 wx => s2 = .pointer (some ⟨w.heap.size, 0, none⟩) ∧ s3 = .pointer (some ⟨w.heap.size + 1, 0, none⟩) ∧ s4 = .bool false ∧ LS w [(w.heap.size, lim v0, 24), (w.heap.size + 1, lim v1, 24)] wx)
  case first =>
    go_wp2_with fail
    go_meet
    exact ⟨rfl, rfl, rfl, LS.two _ _⟩
  case rest =>
    obtain ⟨rfl, rfl, rfl, hS⟩ := hcut
    have H0 := Lib.hid hS
    have HW := Lib.hid hS.below
    clear hS
    go_wp2_with fail
    refine (awake_any _).mono ?_
    rintro e w1 ⟨rfl, b⟩
    have H1 := Lib.hid (H0.out.call b)
    clear b H0
    go_upto_region 4 with fail
    go_upto_region 5 with (first | (refine load24w (by rfl) _ rfl (w.heap.size) (lim v0) rfl (H1.out.get _ _ _ (by simp)) rfl ?_) | (refine load24w (by rfl) _ rfl (w.heap.size + 1) (lim v1) rfl (H1.out.get _ _ _ (by simp)) rfl ?_))
    refine (cNum N0.out _).mono ?_
    rintro e w2 ⟨A3, c4, rfl, s5, b⟩
    have S6 := Lib.hid s5
    clear s5
    have H7 := Lib.hid (H1.out.call b)
    clear b H1
    go_upto_region 5 with (first | (refine load24w (by rfl) _ rfl (w.heap.size) (lim v0) rfl (H7.out.get _ _ _ (by simp)) rfl ?_) | (refine load24w (by rfl) _ rfl (w.heap.size + 1) (lim v1) rfl (H7.out.get _ _ _ (by simp)) rfl ?_))
    go_upto_region 6 with (first | (refine load24w (by rfl) _ rfl (w.heap.size) (lim v0) rfl (H7.out.get _ _ _ (by simp)) rfl ?_) | (refine load24w (by rfl) _ rfl (w.heap.size + 1) (lim v1) rfl (H7.out.get _ _ _ (by simp)) rfl ?_))
    refine (cNum N1.out _).mono ?_
    rintro e w8 ⟨A9, c10, rfl, s11, b⟩
    have S12 := Lib.hid (S6.out.below b)
    have S13 := Lib.hid s11
    clear s11
    have H14 := Lib.hid (H7.out.call b)
    clear b H7
    go_upto_region 6 with (first | (refine load24w (by rfl) _ rfl (w.heap.size) (lim v0) rfl (H14.out.get _ _ _ (by simp)) rfl ?_) | (refine load24w (by rfl) _ rfl (w.heap.size + 1) (lim v1) rfl (H14.out.get _ _ _ (by simp)) rfl ?_))
    go_wp2_with (first | (refine load24w (by rfl) _ rfl (w.heap.size) (lim v0) rfl (H14.out.get _ _ _ (by simp)) rfl ?_) | (refine load24w (by rfl) _ rfl (w.heap.size + 1) (lim v1) rfl (H14.out.get _ _ _ (by simp)) rfl ?_))
    refine (cAdd N0.out N1.out _).mono ?_
    rintro e w15 ⟨rfl, b⟩
    have N16 := Lib.hid (N.add N0.out N1.out)
    have S17 := Lib.hid (S12.out.below b)
    have S18 := Lib.hid (S13.out.below b)
    have H19 := Lib.hid (H14.out.call b)
    clear b H14
    go_wp2_with (first | (refine load24w (by rfl) _ rfl (w.heap.size) (lim v0) rfl (H19.out.get _ _ _ (by simp)) rfl ?_) | (refine load24w (by rfl) _ rfl (w.heap.size + 1) (lim v1) rfl (H19.out.get _ _ _ (by simp)) rfl ?_))
    refine (rAdd _ _ _ S17.out S18.out).mono ?_
    rintro e w20 ⟨A21, c22, rfl, s23, b⟩
    have S24 := Lib.hid (S17.out.below b)
    have S25 := Lib.hid (S18.out.below b)
    have S26 := Lib.hid s23
    clear s23
    have H27 := Lib.hid (H19.out.call b)
    clear b H19
    go_wp2_with (first | (refine load24w (by rfl) _ rfl (w.heap.size) (lim v0) rfl (H27.out.get _ _ _ (by simp)) rfl ?_) | (refine load24w (by rfl) _ rfl (w.heap.size + 1) (lim v1) rfl (H27.out.get _ _ _ (by simp)) rfl ?_))
    refine (cIs N16.out _ S26.out (by grind)).mono ?_
    rintro e w28 ⟨rfl, b⟩
    have S29 := Lib.hid (S24.out.below b)
    have S30 := Lib.hid (S25.out.below b)
    have S31 := Lib.hid (S26.out.below b)
    have H32 := Lib.hid (H27.out.call b)
    clear b H27
    go_wp2_with (first | (refine load24w (by rfl) _ rfl (w.heap.size) (lim v0) rfl (H32.out.get _ _ _ (by simp)) rfl ?_) | (refine load24w (by rfl) _ rfl (w.heap.size + 1) (lim v1) rfl (H32.out.get _ _ _ (by simp)) rfl ?_))
    refine (cSub N0.out N1.out _).mono ?_
    rintro e w33 ⟨rfl, b⟩
    have N34 := Lib.hid (N.sub N0.out N1.out)
    have S35 := Lib.hid (S29.out.below b)
    have S36 := Lib.hid (S30.out.below b)
    have S37 := Lib.hid (S31.out.below b)
    have H38 := Lib.hid (H32.out.call b)
    clear b H32
    go_wp2_with (first | (refine load24w (by rfl) _ rfl (w.heap.size) (lim v0) rfl (H38.out.get _ _ _ (by simp)) rfl ?_) | (refine load24w (by rfl) _ rfl (w.heap.size + 1) (lim v1) rfl (H38.out.get _ _ _ (by simp)) rfl ?_))
    refine (rSub _ _ _ S35.out S36.out).mono ?_
    rintro e w39 ⟨A40, c41, rfl, s42, b⟩
    have S43 := Lib.hid (S35.out.below b)
    have S44 := Lib.hid (S36.out.below b)
    have S45 := Lib.hid (S37.out.below b)
    have S46 := Lib.hid s42
    clear s42
    have H47 := Lib.hid (H38.out.call b)
    clear b H38
    go_wp2_with (first | (refine load24w (by rfl) _ rfl (w.heap.size) (lim v0) rfl (H47.out.get _ _ _ (by simp)) rfl ?_) | (refine load24w (by rfl) _ rfl (w.heap.size + 1) (lim v1) rfl (H47.out.get _ _ _ (by simp)) rfl ?_))
    refine (cIs N34.out _ S46.out (by grind)).mono ?_
    rintro e w48 ⟨rfl, b⟩
    have S49 := Lib.hid (S43.out.below b)
    have S50 := Lib.hid (S44.out.below b)
    have S51 := Lib.hid (S45.out.below b)
    have S52 := Lib.hid (S46.out.below b)
    have H53 := Lib.hid (H47.out.call b)
    clear b H47
    go_wp2_with (first | (refine load24w (by rfl) _ rfl (w.heap.size) (lim v0) rfl (H53.out.get _ _ _ (by simp)) rfl ?_) | (refine load24w (by rfl) _ rfl (w.heap.size + 1) (lim v1) rfl (H53.out.get _ _ _ (by simp)) rfl ?_))
    go_ret
    exact ⟨rfl, H53.out.below⟩

end Go.Proofs.Ytfklojheogidpaa
