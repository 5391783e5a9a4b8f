import Derived.Test.YtfklojheogidpaaCj
set_option linter.unusedVariables false
set_option linter.unusedSimpArgs false
namespace Go.Proofs.Ytfklojheogidpaa
open Go.RowKit Go.Proofs.YtfklojheogidpaaW.PrintWords Go.Proofs.YtfklojheogidpaaW.PrintLast Go.Proofs.YtfklojheogidpaaW.PrintMore
set_option maxHeartbeats 4000000 in
set_option maxRecDepth 100000 in
theorem walk_CurveAgrees (w : World) (l0 : List Int) (l1 : List Int)
    (hl0 : l0.length = 32) (hw0 : ∀ x ∈ l0, 0 ≤ x ∧ x ≤ 255) (hl1 : l1.length = 32) (hw1 : ∀ x ∈ l1, 0 ≤ x ∧ x ≤ 255) :
    Calls Try.prog 16 #[.agg (nums .u8 l0).toArray, .agg (nums .u8 l1).toArray] w fun e w' => e = .returned (.bool true) ∧ Below w.heap.size w w' := by
  have HL := Lib.hid hl0
  have HM := Lib.hid hl1
  have LB : Hid (Bytes l0) := fun x hx => ⟨(hw0 x hx).1, by have := (hw0 x hx).2; omega⟩
  have MB : Hid (Bytes l1) := fun x hx => ⟨(hw1 x hx).1, by have := (hw1 x hx).2; omega⟩
  obtain ⟨r, hr⟩ : ∃ r, smul l0 (smul l1 nine) = r := ⟨_, rfl⟩
  have hr2 : smul l1 (smul l0 nine) = r := by rw [← hr]; exact agrees l1 l0 hl1 hl0
  have b0 := smul_bytes l0 nine
  have b1 := smul_bytes l1 nine
  have n0 := smul_length l0 nine
  have n1 := smul_length l1 nine
  obtain ⟨p, hp⟩ : ∃ p, smul l0 nine = p := ⟨_, rfl⟩
  obtain ⟨q, hq⟩ : ∃ q, smul l1 nine = q := ⟨_, rfl⟩
  rw [hp] at hr2 b0 n0
  rw [hq] at hr b1 n1
  have K0 : Hid (∀ W {A : Option Addr} {c : Nat}, 32 ≤ c → RC W A 32 l0 → Calls Try.prog 46 #[.slice A 32 c] W fun e w' => ∃ A' c', e = .returned (.tuple #[.slice A' 32 c', .int .i64 0]) ∧ RC w' A' 32 p ∧ 32 ≤ c' ∧ Below W.heap.size W w') := fun W A c h1 h2 => k46 l0 hl0 LB.out p hp W h1 h2
  have K1 : Hid (∀ W {A : Option Addr} {c : Nat}, 32 ≤ c → RC W A 32 l1 → Calls Try.prog 46 #[.slice A 32 c] W fun e w' => ∃ A' c', e = .returned (.tuple #[.slice A' 32 c', .int .i64 0]) ∧ RC w' A' 32 q ∧ 32 ≤ c' ∧ Below W.heap.size W w') := fun W A c h1 h2 => k46 l1 hl1 MB.out q hq W h1 h2
  have K2 : Hid (∀ W {A B : Option Addr} {c d : Nat}, 32 ≤ c → RC W A 32 l0 → RC W B 32 q → Calls Try.prog 42 #[.slice A 32 c, .slice B 32 d] W fun e w' => ∃ A' c', e = .returned (.tuple #[.slice A' 32 c', .int .i64 0]) ∧ RC w' A' 32 r ∧ 32 ≤ c' ∧ Below W.heap.size W w') := fun W A B c d h1 h2 h3 => k42 l0 q hl0 n1 LB.out b1 r hr W h1 h2 h3
  have K3 : Hid (∀ W {A B : Option Addr} {c d : Nat}, 32 ≤ c → RC W A 32 l1 → RC W B 32 p → Calls Try.prog 42 #[.slice A 32 c, .slice B 32 d] W fun e w' => ∃ A' c', e = .returned (.tuple #[.slice A' 32 c', .int .i64 0]) ∧ RC w' A' 32 r ∧ 32 ≤ c' ∧ Below W.heap.size W w') := fun W A B c d h1 h2 h3 => k42 l1 p hl1 n0 MB.out b0 r hr2 W h1 h2 h3
  obtain ⟨B0, hB0⟩ : ∃ x, (nums .u8 l0).toArray = x := ⟨_, rfl⟩
  obtain ⟨B1, hB1⟩ : ∃ x, (nums .u8 l1).toArray = x := ⟨_, rfl⟩
  rw [hB0, hB1]
  have HB0 : Hid (B0 = B8 l0) := hB0.symm
  have HB1 : Hid (B1 = B8 l1) := hB1.symm
  clear hl0 hw0 hB0 hr hl1 hw1 hB1 hr2 b0 b1 n0 n1 hp hq
  go_enter Try.func16, Try.ntmps16
  go_wp2_with fail
  refine (awake_any _).mono ?_
  rintro e w1 ⟨rfl, b⟩
  have hS : Hid (AB w [(w.heap.size + 1, l1), (w.heap.size, l0)] w1) := ⟨Below.trans (((Below.refl _ _).alloc (Nat.le_refl _) _).alloc (by simp) _) (b.mono (by simp; omega)), fun y hy => by
    simp only [List.mem_cons, List.not_mem_nil, or_false] at hy
    rcases hy with rfl | rfl
    · exact ⟨by dsimp only; omega, (b.block _ (by simp)).trans (by rw [← HB1.out]; exact heap_alloc2_new w _ _)⟩
    · exact ⟨Nat.le_refl _, (b.block _ (by simp; omega)).trans (by rw [← HB0.out]; exact heap_alloc2_old w _ _)⟩⟩
  obtain ⟨g, hg⟩ : ∃ y, w.heap.size = y := ⟨_, rfl⟩
  have S1 : Hid (AB w [(g + 1, l1), (g, l0)] w1) := by rw [← hg]; exact hS.out
  rw [hg]
  clear b hS HB0 HB1 hg
  go_wp2_with fail
  refine (K0.out w1 (by omega) (S1.out.row g l0 (by simp) HL.out)).mono ?_
  rintro e w2 ⟨A6, c6, rfl, hr6, _, b⟩
  have S2 := Lib.hid (S1.out.call b)
  have R6 := Lib.hid hr6
  clear b hr6 S1 K0
  go_wp2_with fail
  refine (K1.out w2 (by omega) (S2.out.row (g + 1) l1 (by simp) HM.out)).mono ?_
  rintro e w3 ⟨A8, c8, rfl, hr8, _, b⟩
  have S3 := Lib.hid (S2.out.call b)
  have R6b := Lib.hid (R6.out.below b)
  have R8 := Lib.hid hr8
  clear b hr8 S2 K1 R6
  go_wp2_with fail
  refine (K2.out w3 (by omega) (S3.out.row g l0 (by simp) HL.out) R8.out).mono ?_
  rintro e w4 ⟨A10, c10, rfl, hr10, _, b⟩
  have S4 := Lib.hid (S3.out.call b)
  have R6c := Lib.hid (R6b.out.below b)
  have R10 := Lib.hid hr10
  clear b hr10 S3 K2 R6b R8
  go_wp2_with fail
  refine (K3.out w4 (by omega) (S4.out.row (g + 1) l1 (by simp) HM.out) R6c.out).mono ?_
  rintro e w5 ⟨A12, c12, rfl, hr12, _, b⟩
  have S5 := Lib.hid (S4.out.call b).below
  have R10b := Lib.hid (R10.out.below b)
  have R12 := Lib.hid hr12
  clear b hr12 S4 K3 R6c R10
  have v1 := conv_C (c := c10) R10b.out.r
  have v2 := conv_C (c := c12) R12.out.r
  go_wp2
  go_ret
  exact ⟨rfl, S5.out⟩
end Go.Proofs.Ytfklojheogidpaa
