import Derived.Test.YtfklojheogidpaaCi
import Derived.Test.YtfklojheogidpaaCe
import Derived.Laws.BytesArg
set_option linter.unusedVariables false
set_option linter.unusedSimpArgs false
namespace Go.Proofs.Ytfklojheogidpaa
open Go.RowKit Go.Proofs.YtfklojheogidpaaW.PrintWords Go.Proofs.YtfklojheogidpaaW.PrintLast Go.Proofs.YtfklojheogidpaaW.PrintMore
theorem conv_C {w : World} {A : Option Addr} {n c : Nat} {l : List Int} (h : Kd.C (Kd.int .u8) w A n l) : (convert 22 9 (.slice A n c)).run Try.prog w = .ok (.string (strOfNums l)) w := by
  have hr := Kd.reads_of_C (d := (0 : Int)) h
  rw [run_convert_bytes_string w 22 9 5 A n c Try.underlying22 Try.underlying5 Try.underlying9]
  have hlen := hr.1
  rcases Nat.eq_zero_or_pos n with h0 | hp
  · have hl0 : l = [] := List.eq_nil_of_length_eq_zero (by omega)
    subst hl0 h0
    cases A with
    | none => simp [Conv.bytesToString, strOfNums]; rfl
    | some ad => exact run_bytesToString w ad 0 c [] (by rfl)
  · obtain ⟨ad, rfl, hc⟩ := hr.2.2 hp
    have hl : (loadCells ad n).run Try.prog w = .ok (l.map (Value.int .u8)).toArray w := by
      have := run_loadCells_list (P := Try.prog) w ad (l.map (Value.int .u8)) (fun j v hj => by
        have hjl : j < l.length := by
          rcases Nat.lt_or_ge j l.length with h | h
          · exact h
          · simp [List.getElem?_eq_none (show (l.map (Value.int .u8)).length ≤ j by simpa using h)] at hj
        rw [hc j (by omega)]
        simp [List.getElem?_eq_getElem hjl] at hj
        subst hj
        simp [List.getD, List.getElem?_eq_getElem hjl])
      simpa [hlen] using this
    rw [run_bytesToString w _ n c l hl, foldl_push_bytes]
    simp [strOfNums, ByteArray.empty, ByteArray.emptyWithCapacity]
    rfl

/-! ### awake -/
theorem nineL_eq : nineL = nine := rfl
set_option maxRecDepth 100000 in
theorem smul_zero9 : smul nine z32 = z32 := by
  have h := ladF_eq n99 0 (fun q => decide (q.z = 0)) bits99 0 (fun j hj => by rw [Nat.zero_add]; exact bits99_ok j hj)
  have h2 : ladF 0 bits99 (lad n99 0 0) (fun q => decide (q.z = 0)) = true := by decide +kernel
  rw [h2] at h
  have h3 : (lad n99 0 255).z = 0 := of_decide_eq_true h.symm
  have h4 : decV z32 = 0 := by decide +kernel
  unfold smul ladN
  rw [← nineL_eq, n99_eq, h4, h3, Int.zero_pow (by decide +kernel), Int.mul_zero]
  decide +kernel
theorem shared_zero9 : sharedO nine z32 = ([], 11) := by
  unfold sharedO
  rw [if_pos ⟨rfl, rfl⟩, smul_zero9]
  rfl
theorem scal_99 : scalO nine nine = (D r99, 0) := by
  unfold scalO
  rw [if_pos ⟨rfl, rfl⟩, ← nineL_eq, smul99]
theorem scal_nil : scalO [] nine = ([], 1) := rfl
theorem clamp_z : clampL z32 = [0, 0, 0, 0, 0, 0, 0, 0, 0, 0, 0, 0, 0, 0, 0, 0, 0, 0, 0, 0, 0, 0, 0, 0, 0, 0, 0, 0, 0, 0, 0, 64] := by decide +kernel
theorem RC.cells {w : World} {A : Option Addr} {n : Nat} {l : List Int} (h : RC w A n l) (hn : 0 < n) : ∃ ad, A = some ad ∧ ∀ j, j < n → w.cell? (ad.add j) = some (.int .u8 (l.getD j 0)) := (Kd.reads_of_C (d := (0 : Int)) h.r).2.2 hn
theorem k99 (w : World) {A B : Option Addr} (h : RC w A 32 nine) (h2 : RC w B 32 nine) : Calls Try.prog 42 #[.slice A 32 32, .slice B 32 32] w fun e w' => ∃ A' c', e = .returned (.tuple #[.slice A' 32 c', .int .i64 0]) ∧ RC w' A' 32 (D r99) ∧ Below w.heap.size w w' := by
  have := scalar_out nine nine (A := A) (B := B) (c := 32) (d := 32) w h (by decide) nine_bytes h2 nine_bytes
  rw [scal_99] at this
  refine this.mono ?_
  rintro e w' ⟨A', c', rfl, h1, h2, h3⟩
  have hl : (D r99).length = 32 := D_length _
  rw [hl] at h1
  exact ⟨A', c', by rw [hl], h1, h3⟩
theorem k00 (w : World) {B : Option Addr} (h2 : RC w B 32 nine) : Calls Try.prog 42 #[.slice none 0 0, .slice B 32 32] w fun e w' => ∃ A' c', e = .returned (.tuple #[.slice A' 0 c', .int .i64 1]) ∧ Below w.heap.size w w' := by
  have := scalar_out [] nine (A := none) (B := B) (c := 0) (d := 32) w (RC.none _) (by decide) (fun x hx => by cases hx) h2 nine_bytes
  rw [scal_nil] at this
  refine this.mono ?_
  rintro e w' ⟨A', c', rfl, h1, h2, h3⟩
  exact ⟨A', c', rfl, h3⟩
theorem kz (w : World) {A B : Option Addr} (h : RC w A 32 nine) (h2 : RC w B 32 z32) : Calls Try.prog 44 #[.slice A 32 32, .slice B 32 32] w fun e w' => ∃ A' c', e = .returned (.tuple #[.slice A' 0 c', .int .i64 11]) ∧ Below w.heap.size w w' := by
  have := shared_out nine z32 (A := A) (B := B) (c := 32) (d := 32) w h (by decide) nine_bytes h2 z32_bytes
  rw [shared_zero9] at this
  refine this.mono ?_
  rintro e w' ⟨A', c', rfl, h1, h2, h3⟩
  exact ⟨A', c', rfl, h3⟩
theorem kp (w : World) {A : Option Addr} (h : RC w A 32 nine) : Calls Try.prog 46 #[.slice A 32 32] w fun e w' => ∃ A' c', e = .returned (.tuple #[.slice A' 32 c', .int .i64 0]) ∧ RC w' A' 32 (D r99) ∧ Below w.heap.size w w' := by
  have := public_out nine (A := A) (c := 32) w h (by decide) nine_bytes
  rw [scal_99] at this
  refine this.mono ?_
  rintro e w' ⟨A', c', rfl, h1, h2, h3⟩
  have hl : (D r99).length = 32 := D_length _
  rw [hl] at h1
  exact ⟨A', c', by rw [hl], h1, h3⟩
theorem kc (w : World) {A : Option Addr} (h : RC w A 32 z32) : Calls Try.prog 48 #[.slice A 32 32] w fun e w' => ∃ A' c' l, e = .returned (.tuple #[.slice A' 32 c', .int .i64 0]) ∧ RC w' A' 32 l ∧ l.getD 31 0 = 64 ∧ Below w.heap.size w w' := by
  refine (clamp_any z32 A 32 w h.r (by omega) z32_bytes rfl).mono ?_
  rintro e w' ⟨g, cap, rfl, h1, h3⟩
  rw [clamp_z] at h1
  exact ⟨_, cap, _, rfl, h1.row, rfl, h3⟩

set_option maxHeartbeats 4000000 in
set_option maxRecDepth 100000 in
theorem awake_any (w : World) : Calls Try.prog 41 #[] w fun e w' => e = .returned (.bool true) ∧ Below w.heap.size w w' := by
  have hmk := make32
  have HL : Hid (∀ W : World, Ow (W.alloc (.cells (nums .u8 z32).toArray 5)) W.heap.size W.heap.size 32 z32) := fun W => lit_own W W.heap.size (Nat.le_refl _)
  obtain ⟨Z, hZ⟩ : ∃ Z, (nums .u8 z32).toArray = Z := ⟨_, rfl⟩
  rw [hZ] at hmk HL
  obtain ⟨q, hq⟩ : ∃ q, D r99 = q := ⟨_, rfl⟩
  have hq0 := smul99_ends.1
  have hq1 := smul99_ends.2
  have KP := Lib.hid (@kp)
  have KS := Lib.hid (@k99)
  rw [hq] at hq0 hq1 KP KS
  have HQ0 := Lib.hid hq0
  have HQ1 := Lib.hid hq1
  clear hq0 hq1 hq
  go_enter Try.func41, Try.ntmps41
  go_upto_region 2 with fail
  have hO := HL.out w
  have HB1 : Hid (Below w.heap.size w (w.alloc (.cells Z 5))) := (Below.refl _ _).alloc (Nat.le_refl _) _
  obtain ⟨w1, hw1⟩ : ∃ y, w.alloc (.cells Z 5) = y := ⟨_, rfl⟩
  rw [hw1] at hO HB1 ⊢
  obtain ⟨hc0, hf0⟩ := hO.cell 0 (by decide)
  have HO := Lib.hid (hO.put 0 9)
  have HB2 := Lib.hid (HB1.out.setCell (p := ⟨w.heap.size, 0, none⟩) (Nat.le_refl _) (.int .u8 9))
  clear hO hw1 HB1
  go_upto_region 3 with fail
  obtain ⟨w2, hw2⟩ : ∃ y, w1.setCell ⟨w.heap.size, 0, none⟩ (.int .u8 9) = y := ⟨_, rfl⟩
  rw [hw2] at HO HB2 ⊢
  obtain ⟨g, hg⟩ : ∃ y, w.heap.size = y := ⟨_, rfl⟩
  have HK : Hid (RC w2 (some ⟨g, 0, none⟩) 32 nine) := by rw [← hg]; exact HO.out.row
  rw [hg]
  clear hw2 hc0 hf0 HO hg
  go_wp2_with fail
  refine (KS.out w2 HK.out HK.out).mono ?_
  rintro e w3 ⟨A2, c2, rfl, hr, b⟩
  have HR3 := Lib.hid hr
  have HK3 := Lib.hid (HK.out.below b)
  have HB3 := Lib.hid (HB2.out.trans (b.mono HB2.out.size))
  clear hr b HK HB2 KS
  go_wp2_with fail
  have b := Below.alloc (Below.refl w3.heap.size w3) (Nat.le_refl _) (.cells Z 5)
  refine (kc _ (HL.out w3).row).mono ?_
  rintro e w4 ⟨A4, c4, l4, rfl, hr, hl4, b2⟩
  have b3 := b.trans (b2.mono b.size)
  have HR4 := Lib.hid (HR3.out.below b3)
  have HK4 := Lib.hid (HK3.out.below b3)
  have HB4 := Lib.hid (HB3.out.trans (b3.mono HB3.out.size))
  have HM4 := Lib.hid hr
  have HL4 := Lib.hid hl4
  clear hr hl4 b b2 b3 HR3 HK3 HB3
  go_wp2_with fail
  refine (k00 _ HK4.out).mono ?_
  rintro e w5 ⟨A6, c6, rfl, b⟩
  have HR5 := Lib.hid (HR4.out.below b)
  have HK5 := Lib.hid (HK4.out.below b)
  have HB5 := Lib.hid (HB4.out.trans (b.mono HB4.out.size))
  have HM5 := Lib.hid (HM4.out.below b)
  clear b HR4 HK4 HB4 HM4
  go_wp2_with fail
  have b := Below.alloc (Below.refl w5.heap.size w5) (Nat.le_refl _) (.cells Z 5)
  refine (kz _ (HK5.out.below b) (HL.out w5).row).mono ?_
  rintro e w6 ⟨A8, c8, rfl, b2⟩
  have b3 := b.trans (b2.mono b.size)
  have HR6 := Lib.hid (HR5.out.below b3)
  have HK6 := Lib.hid (HK5.out.below b3)
  have HB6 := Lib.hid (HB5.out.trans (b3.mono HB5.out.size))
  have HM6 := Lib.hid (HM5.out.below b3)
  clear b b2 b3 HR5 HK5 HB5 HM5 hmk HL
  go_wp2_with fail
  refine (KP.out w6 HK6.out).mono ?_
  rintro e w7 ⟨A10, c10, rfl, hr, b⟩
  have HR7 := Lib.hid (HR6.out.below b)
  have HB7 := Lib.hid (HB6.out.trans (b.mono HB6.out.size))
  have HM7 := Lib.hid (HM6.out.below b)
  have HP7 := Lib.hid hr
  clear hr b HR6 HK6 HB6 HM6 KP
  go_upto_region 8 with fail
  obtain ⟨a2, e2, hc2⟩ := HR7.out.cells (by omega)
  obtain ⟨a4, e4, hc4⟩ := HM7.out.cells (by omega)
  subst e2 e4
  have q1 := hc2 0 (by omega)
  have q2 := hc2 31 (by omega)
  have q3 := hc4 31 (by omega)
  rw [HQ0.out, Addr.add_zero'] at q1
  rw [HQ1.out, show a2.add 31 = ⟨a2.block, a2.off + 31, none⟩ from rfl] at q2
  rw [HL4.out, show a4.add 31 = ⟨a4.block, a4.off + 31, none⟩ from rfl] at q3
  have v1 := conv_C (c := c2) HR7.out.r
  have v2 := conv_C (c := c10) HP7.out.r
  clear hc2 hc4
  go_wp2
  go_ret
  exact ⟨rfl, HB7.out⟩
end Go.Proofs.Ytfklojheogidpaa
