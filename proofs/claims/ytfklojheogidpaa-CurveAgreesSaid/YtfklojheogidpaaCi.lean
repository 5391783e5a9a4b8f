import Derived.Test.YtfklojheogidpaaCh
set_option linter.unusedVariables false
set_option linter.unusedSimpArgs false
namespace Go.Proofs.Ytfklojheogidpaa
open Go.RowKit Go.Proofs.YtfklojheogidpaaW.PrintWords Go.Proofs.YtfklojheogidpaaW.PrintLast Go.Proofs.YtfklojheogidpaaW.PrintMore

/-! ### Public -/
def z32 : List Int := [0, 0, 0, 0, 0, 0, 0, 0, 0, 0, 0, 0, 0, 0, 0, 0, 0, 0, 0, 0, 0, 0, 0, 0, 0, 0, 0, 0, 0, 0, 0, 0]
theorem make32 (W : World) : (Instr.makeSlice 22 (.int .i64 32) (.int .i64 32)).run Try.prog W = .ok (.slice (some ⟨W.heap.size, 0, none⟩) 32 32) (W.alloc (.cells (nums .u8 z32).toArray 5)) := by
  have h := run_make_row' (P := Try.prog) 22 5 (.int .u8 0) 1 Try.underlying22 info5' rfl .i64 .i64 32 (by omega) (by omega) W
  have e : madeCells #[Value.int IntKind.u8 0] 32 = (nums .u8 z32).toArray := by kernel_rfl
  rw [e] at h
  exact h
theorem lit_own (w : World) (base : Nat) (hb : base ≤ w.heap.size) : Ow (w.alloc (.cells (nums .u8 z32).toArray 5)) base w.heap.size 32 z32 :=
  ⟨Kd.R_of_own (enc := Value.int .u8) (h1 := fun _ => rfl) (ok := fun _ => True) (own_lit w base 5 .u8 z32 hb (by simp [z32])) (fun _ _ => trivial), hb⟩
theorem z32_bytes : Bytes z32 := fun x hx => by
  simp only [z32, List.mem_cons, List.not_mem_nil, or_false] at hx
  omega
theorem nine_bytes : Bytes nine := fun x hx => by
  simp only [nine, List.mem_cons, List.not_mem_nil, or_false] at hx
  omega

set_option maxHeartbeats 1000000 in
theorem public_out (k : List Int) {A : Option Addr} {c : Nat} (w : World) (hC : RC w A k.length k) (hc : k.length ≤ c) (hb : Bytes k) :
    Calls Try.prog 46 #[.slice A k.length c] w (Gives w (scalO k nine)) := by
  have hmk := make32
  have KS : Hid (∀ (W : World) (B : Option Addr), Below w.heap.size w W → RC W B 32 nine → Calls Try.prog 42 #[.slice A k.length c, .slice B 32 32] W (Gives W (scalO k nine))) := fun W B hB hR => scalar_out k nine (A := A) (B := B) (c := c) (d := 32) W (hC.below hB) hc hb hR nine_bytes
  have HL : Hid (∀ W : World, w.heap.size ≤ W.heap.size → Ow (W.alloc (.cells (nums .u8 z32).toArray 5)) w.heap.size W.heap.size 32 z32) := fun W h => lit_own W w.heap.size h
  obtain ⟨Z, hZ⟩ : ∃ Z, (nums .u8 z32).toArray = Z := ⟨_, rfl⟩
  rw [hZ] at hmk HL
  obtain ⟨p, hp⟩ : ∃ p, scalO k nine = p := ⟨_, rfl⟩
  rw [hp] at KS ⊢
  clear hC hc hb hZ hp
  go_enter Try.func46, Try.ntmps46
  go_upto_region 2 with fail
  have hO := HL.out w (Nat.le_refl _)
  have HB1 : Hid (Below w.heap.size w (w.alloc (.cells Z 5))) := (Below.refl _ _).alloc (Nat.le_refl _) _
  obtain ⟨w1, hw1⟩ : ∃ y, w.alloc (.cells Z 5) = y := ⟨_, rfl⟩
  rw [hw1] at hO HB1 ⊢
  obtain ⟨g, hg⟩ : ∃ y, w.heap.size = y := ⟨_, rfl⟩
  have hcl := hO.cell 0 (by decide)
  have HO := Lib.hid (hO.put 0 9)
  have HB2 := Lib.hid (HB1.out.setCell (p := ⟨w.heap.size, 0, none⟩) (Nat.le_refl _) (.int .u8 9))
  obtain ⟨hc0, hf0⟩ := hcl
  clear hO hmk HL hw1 HB1 hg
  go_upto_region 3 with fail
  obtain ⟨w2, hw2⟩ : ∃ y, w1.setCell ⟨w.heap.size, 0, none⟩ (.int .u8 9) = y := ⟨_, rfl⟩
  rw [hw2] at HO HB2 ⊢
  clear hw2 hc0 hf0
  go_wp2_with fail
  refine (KS.out w2 _ HB2.out HO.out.row).mono ?_
  rintro e w3 ⟨A1, c1, rfl, hr, hq, hb⟩
  have HR := Lib.hid hr
  have HQ := Lib.hid hq
  have HB3 := Lib.hid (HB2.out.trans (hb.mono HB2.out.size))
  clear hr hq hb KS HO HB2
  go_wp2
  go_ret2
  exact ⟨_, _, rfl, HR.out, HQ.out, HB3.out⟩

set_option maxHeartbeats 1000000 in
theorem rpublic_out (k : List Int) {A : Option Addr} {c : Nat} (w : World) (hC : RC w A k.length k) (hc : k.length ≤ c) (hb : Bytes k) :
    Calls Try.prog 47 #[.slice A k.length c] w (Gives w (scalO k nine)) := by
  have hmk := make32
  have KS : Hid (∀ (W : World) (B : Option Addr), Below w.heap.size w W → RC W B 32 nine → Calls Try.prog 43 #[.slice A k.length c, .slice B 32 32] W (Gives W (scalO k nine))) := fun W B hB hR => rscalar_out k nine (A := A) (B := B) (c := c) (d := 32) W (hC.below hB) hc hb hR (by decide) nine_bytes
  have HL : Hid (∀ W : World, w.heap.size ≤ W.heap.size → Ow (W.alloc (.cells (nums .u8 z32).toArray 5)) w.heap.size W.heap.size 32 z32) := fun W h => lit_own W w.heap.size h
  obtain ⟨Z, hZ⟩ : ∃ Z, (nums .u8 z32).toArray = Z := ⟨_, rfl⟩
  rw [hZ] at hmk HL
  obtain ⟨p, hp⟩ : ∃ p, scalO k nine = p := ⟨_, rfl⟩
  rw [hp] at KS ⊢
  clear hC hc hb hZ hp
  go_enter Try.func47, Try.ntmps47
  go_upto_region 2 with fail
  have hO := HL.out w (Nat.le_refl _)
  have HB1 : Hid (Below w.heap.size w (w.alloc (.cells Z 5))) := (Below.refl _ _).alloc (Nat.le_refl _) _
  obtain ⟨w1, hw1⟩ : ∃ y, w.alloc (.cells Z 5) = y := ⟨_, rfl⟩
  rw [hw1] at hO HB1 ⊢
  obtain ⟨g, hg⟩ : ∃ y, w.heap.size = y := ⟨_, rfl⟩
  have hcl := hO.cell 0 (by decide)
  have HO := Lib.hid (hO.put 0 9)
  have HB2 := Lib.hid (HB1.out.setCell (p := ⟨w.heap.size, 0, none⟩) (Nat.le_refl _) (.int .u8 9))
  obtain ⟨hc0, hf0⟩ := hcl
  clear hO hmk HL hw1 HB1 hg
  go_upto_region 3 with fail
  obtain ⟨w2, hw2⟩ : ∃ y, w1.setCell ⟨w.heap.size, 0, none⟩ (.int .u8 9) = y := ⟨_, rfl⟩
  rw [hw2] at HO HB2 ⊢
  clear hw2 hc0 hf0
  go_wp2_with fail
  refine (KS.out w2 _ HB2.out HO.out.row).mono ?_
  rintro e w3 ⟨A1, c1, rfl, hr, hq, hb⟩
  have HR := Lib.hid hr
  have HQ := Lib.hid hq
  have HB3 := Lib.hid (HB2.out.trans (hb.mono HB2.out.size))
  clear hr hq hb KS HO HB2
  go_wp2
  go_ret2
  exact ⟨_, _, rfl, HR.out, HQ.out, HB3.out⟩
end Go.Proofs.Ytfklojheogidpaa
