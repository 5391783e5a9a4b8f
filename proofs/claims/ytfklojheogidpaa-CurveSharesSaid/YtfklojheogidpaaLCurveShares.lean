import Derived.Test.YtfklojheogidpaaCw
set_option linter.unusedVariables false
set_option linter.unusedSimpArgs false
namespace Go.Proofs.Ytfklojheogidpaa
open Go.RowKit Go.Proofs.YtfklojheogidpaaW.PrintWords Go.Proofs.YtfklojheogidpaaW.PrintLast Go.Proofs.YtfklojheogidpaaW.PrintMore
set_option maxHeartbeats 4000000 in
set_option maxRecDepth 100000 in
theorem walk_CurveShares (w : World) (A0 : Option Addr) (c0 : Nat) (l0 : List Int) (A1 : Option Addr) (c1 : Nat) (l1 : List Int)
    (hC0 : Kd.C (Kd.int .u8) w A0 l0.length l0) (hc0 : l0.length ≤ c0) (hy0 : l0.length * 1 ≤ 140737488351232) (hw0 : ∀ x ∈ l0, 0 ≤ x ∧ x ≤ 255) (hC1 : Kd.C (Kd.int .u8) w A1 l1.length l1) (hc1 : l1.length ≤ c1) (hy1 : l1.length * 1 ≤ 140737488351232) (hw1 : ∀ x ∈ l1, 0 ≤ x ∧ x ≤ 255) :
    Calls Try.prog 14 #[.slice A0 l0.length c0, .slice A1 l1.length c1] w fun e w' => e = .returned (.bool true) ∧ Below w.heap.size w w' := by
  have B0 : Bytes l0 := fun x hx => ⟨(hw0 x hx).1, by have := (hw0 x hx).2; omega⟩
  have B1 : Bytes l1 := fun x hx => ⟨(hw1 x hx).1, by have := (hw1 x hx).2; omega⟩
  have R0 : Hid (RC w A0 l0.length l0) := ⟨hC0⟩
  have R1 : Hid (RC w A1 l1.length l1) := ⟨hC1⟩
  have KS := Lib.hid (fun W (h : RC W A0 l0.length l0) (h2 : RC W A1 l1.length l1) => shared_out l0 l1 (d := c1) W h hc0 B0 h2 B1)
  have KR := Lib.hid (fun W (h : RC W A0 l0.length l0) (h2 : RC W A1 l1.length l1) => rshared_out l0 l1 (d := c1) W h hc0 B0 h2 hc1 B1)
  have KP := Lib.hid (fun W (h : RC W A0 l0.length l0) => public_out l0 W h hc0 B0)
  have KQ := Lib.hid (fun W (h : RC W A0 l0.length l0) => rpublic_out l0 W h hc0 B0)
  obtain ⟨p, hp⟩ : ∃ p, sharedO l0 l1 = p := ⟨_, rfl⟩
  rw [hp] at KS KR
  obtain ⟨q, hq⟩ : ∃ p, scalO l0 nine = p := ⟨_, rfl⟩
  rw [hq] at KP KQ
  clear hC0 hC1 hw0 hw1 hc0 hc1 hy0 hy1 hp hq B0 B1
  go_enter Try.func14, Try.ntmps14
  go_wp2_with fail
  refine (awake_any _).mono ?_
  rintro e w1 ⟨rfl, b⟩
  have HB1 := Lib.hid b
  have R01 := Lib.hid (R0.out.below b)
  have R11 := Lib.hid (R1.out.below b)
  clear b R0 R1
  go_wp2_with fail
  refine (KS.out _ R01.out R11.out).mono ?_
  rintro e w2 ⟨A2, c2, rfl, hr, _, b⟩
  have HB2 := Lib.hid (HB1.out.trans (b.mono HB1.out.size))
  have R02 := Lib.hid (R01.out.below b)
  have R12 := Lib.hid (R11.out.below b)
  have P2 := Lib.hid hr
  clear b hr R01 R11 HB1 KS
  go_wp2_with fail
  refine (KR.out _ R02.out R12.out).mono ?_
  rintro e w3 ⟨A3, c3, rfl, hr, _, b⟩
  have HB3 := Lib.hid (HB2.out.trans (b.mono HB2.out.size))
  have R03 := Lib.hid (R02.out.below b)
  have P23 := Lib.hid (P2.out.below b)
  have P3 := Lib.hid hr
  clear b hr R02 R12 HB2 KR P2
  go_wp2_with fail
  refine (KP.out _ R03.out).mono ?_
  rintro e w4 ⟨A4, c4, rfl, hr, _, b⟩
  have HB4 := Lib.hid (HB3.out.trans (b.mono HB3.out.size))
  have R04 := Lib.hid (R03.out.below b)
  have P24 := Lib.hid (P23.out.below b)
  have P34 := Lib.hid (P3.out.below b)
  have P4 := Lib.hid hr
  clear b hr R03 HB3 KP P23 P3
  go_wp2_with fail
  refine (KQ.out _ R04.out).mono ?_
  rintro e w5 ⟨A5, c5, rfl, hr, _, b⟩
  have HB5 := Lib.hid (HB4.out.trans (b.mono HB4.out.size))
  have P25 := Lib.hid (P24.out.below b)
  have P35 := Lib.hid (P34.out.below b)
  have P45 := Lib.hid (P4.out.below b)
  have P5 := Lib.hid hr
  clear b hr R04 HB4 KQ P24 P34 P4
  have v1 := conv_C (c := c2) P25.out.r
  have v2 := conv_C (c := c3) P35.out.r
  have v3 := conv_C (c := c4) P45.out.r
  have v4 := conv_C (c := c5) P5.out.r
  go_wp2
  go_ret
  exact ⟨rfl, HB5.out⟩
end Go.Proofs.Ytfklojheogidpaa
