import Derived.Test.YtfklojheogidpaaCy
set_option linter.unusedVariables false
set_option linter.unusedSimpArgs false
namespace Go.Proofs.Ytfklojheogidpaa
open Go.RowKit Go.Proofs.YtfklojheogidpaaW.PrintWords Go.Proofs.YtfklojheogidpaaW.PrintLast Go.Proofs.YtfklojheogidpaaW.PrintMore
abbrev p18_0 : Oper := { dst := some 26, op := Op.slice 50 (Operand.tmp 1) none none none, type := 22, pos := "law.go:104", after := #[], guard := none }
abbrev p18_1 : Oper := { dst := some 27, op := Op.slice 50 (Operand.tmp 8) none none none, type := 22, pos := "law.go:104", after := #[], guard := none }
abbrev p18_2 : Oper := { dst := some 28, op := Op.call { callee := Callee.value (Operand.func 42), args := #[Operand.tmp 26, Operand.tmp 27], argTypes := #[22, 22] }, type := 54, pos := "law.go:104", after := #[{ on := 0, ground := Ground.data }, { on := 1, ground := Ground.data }], guard := none }
abbrev p18_3 : Oper := { dst := some 25, op := Op.move (Operand.tmp 28), type := 54, pos := "law.go:104", after := #[{ on := 2, ground := Ground.data }], guard := none }
abbrev p18_4 : Oper := { dst := some 29, op := Op.extract (Operand.tmp 25) 0, type := 22, pos := "law.go:104", after := #[{ on := 3, ground := Ground.data }], guard := none }
abbrev p18_5 : Oper := { dst := some 30, op := Op.extract (Operand.tmp 25) 1, type := 53, pos := "law.go:104", after := #[{ on := 3, ground := Ground.data }, { on := 6, ground := Ground.gcOnly Departure.lateStores }], guard := none }
abbrev p18_6 : Oper := { dst := some 9, op := Op.assign (Operand.tmp 29), type := 22, pos := "law.go:104", after := #[{ on := 4, ground := Ground.data }, { on := 2, ground := Ground.chain }, { on := 0, ground := Ground.phase }, { on := 1, ground := Ground.phase }, { on := 2, ground := Ground.phase }, { on := 3, ground := Ground.phase }, { on := 4, ground := Ground.phase }, { on := 5, ground := Ground.textOnly Departure.lateStores }], guard := none }
abbrev p18_7 : Oper := { dst := some 10, op := Op.assign (Operand.tmp 30), type := 53, pos := "law.go:104", after := #[{ on := 5, ground := Ground.data }, { on := 6, ground := Ground.chain }, { on := 0, ground := Ground.phase }, { on := 1, ground := Ground.phase }, { on := 2, ground := Ground.phase }, { on := 3, ground := Ground.phase }, { on := 4, ground := Ground.phase }, { on := 5, ground := Ground.phase }, { on := 6, ground := Ground.phase }], guard := none }
set_option maxHeartbeats 4000000 in
set_option maxRecDepth 100000 in
theorem walk_CurvePublic (w : World) (l0 : List Int)
    (hl0 : l0.length = 32) (hw0 : ∀ x ∈ l0, 0 ≤ x ∧ x ≤ 255) :
    Calls Try.prog 18 #[.agg (nums .u8 l0).toArray] w fun e w' => e = .returned (.bool true) ∧ Below w.heap.size w w' := by
  have HL := Lib.hid hl0
  have LB : Hid (Bytes l0) := fun x hx => ⟨(hw0 x hx).1, by have := (hw0 x hx).2; omega⟩
  obtain ⟨r, hr⟩ : ∃ r, smul l0 nine = r := ⟨_, rfl⟩
  have K46 : Hid (∀ W {A : Option Addr} {c : Nat}, 32 ≤ c → RC W A 32 l0 → Calls Try.prog 46 #[.slice A 32 c] W fun e w' => ∃ A' c', e = .returned (.tuple #[.slice A' 32 c', .int .i64 0]) ∧ RC w' A' 32 r ∧ 32 ≤ c' ∧ Below W.heap.size W w') := fun W A c h1 h2 => k46 l0 hl0 LB.out r hr W h1 h2
  have K47 : Hid (∀ W {A : Option Addr} {c : Nat}, 32 ≤ c → RC W A 32 l0 → Calls Try.prog 47 #[.slice A 32 c] W fun e w' => ∃ A' c', e = .returned (.tuple #[.slice A' 32 c', .int .i64 0]) ∧ RC w' A' 32 r ∧ 32 ≤ c' ∧ Below W.heap.size W w') := fun W A c h1 h2 => k47 l0 hl0 LB.out r hr W h1 h2
  have K42 : Hid (∀ W {A B : Option Addr} {c d : Nat}, 32 ≤ c → RC W A 32 l0 → RC W B 32 nine → Calls Try.prog 42 #[.slice A 32 c, .slice B 32 d] W fun e w' => ∃ A' c', e = .returned (.tuple #[.slice A' 32 c', .int .i64 0]) ∧ RC w' A' 32 r ∧ 32 ≤ c' ∧ Below W.heap.size W w') := fun W A B c d h1 h2 h3 => k42 l0 nine hl0 rfl LB.out nine_bytes r hr W h1 h2 h3
  obtain ⟨B0, hB0⟩ : ∃ x, (nums .u8 l0).toArray = x := ⟨_, rfl⟩
  rw [hB0]
  have HB0 : Hid (B0 = B8 l0) := hB0.symm
  clear hl0 hw0 hB0 hr
  go_enter Try.func18, Try.ntmps18
  go_wp2_with fail
  refine (awake_any _).mono ?_
  rintro e w1 ⟨rfl, b⟩
  have hS : Hid (AB w [(w.heap.size, l0)] w1) := ⟨Below.trans ((Below.refl _ _).alloc (Nat.le_refl _) _) (b.mono (by simp)), fun y hy => by
    simp only [List.mem_cons, List.not_mem_nil, or_false] at hy
    subst hy
    exact ⟨Nat.le_refl _, (b.block _ (by simp)).trans (by rw [← HB0.out]; exact heap_alloc_new w _)⟩⟩
  obtain ⟨g, hg⟩ : ∃ y, w.heap.size = y := ⟨_, rfl⟩
  have hS2 : Hid (AB w [(g, l0)] w1) := by rw [← hg]; exact hS.out
  rw [hg]
  clear b hS HB0 hg
  go_wp2_with fail
  refine (K46.out w1 (by omega) (hS2.out.row g l0 (by simp) HL.out)).mono ?_
  rintro e w2 ⟨A4, c4, rfl, hr, _, b⟩
  have hS3 := Lib.hid (hS2.out.call b)
  have R4 := Lib.hid hr
  clear b hr hS2 K46
  go_wp2_with fail
  refine (K47.out w2 (by omega) (hS3.out.row g l0 (by simp) HL.out)).mono ?_
  rintro e w3 ⟨A6, c6, rfl, hr, _, b⟩
  have hS4 := Lib.hid (hS3.out.call b)
  have R4b := Lib.hid (R4.out.below b)
  have R6 := Lib.hid hr
  clear b hr hS3 K47 R4
  go_upto_region 7 with fail
  have hB : Below w3.heap.size w3 (w3.alloc (.cells #[.int .u8 0, .int .u8 0, .int .u8 0, .int .u8 0, .int .u8 0, .int .u8 0, .int .u8 0, .int .u8 0, .int .u8 0, .int .u8 0, .int .u8 0, .int .u8 0, .int .u8 0, .int .u8 0, .int .u8 0, .int .u8 0, .int .u8 0, .int .u8 0, .int .u8 0, .int .u8 0, .int .u8 0, .int .u8 0, .int .u8 0, .int .u8 0, .int .u8 0, .int .u8 0, .int .u8 0, .int .u8 0, .int .u8 0, .int .u8 0, .int .u8 0, .int .u8 0] 50)) := (Below.refl _ _).alloc (Nat.le_refl _) _
  have hnew : (w3.alloc (.cells #[.int .u8 0, .int .u8 0, .int .u8 0, .int .u8 0, .int .u8 0, .int .u8 0, .int .u8 0, .int .u8 0, .int .u8 0, .int .u8 0, .int .u8 0, .int .u8 0, .int .u8 0, .int .u8 0, .int .u8 0, .int .u8 0, .int .u8 0, .int .u8 0, .int .u8 0, .int .u8 0, .int .u8 0, .int .u8 0, .int .u8 0, .int .u8 0, .int .u8 0, .int .u8 0, .int .u8 0, .int .u8 0, .int .u8 0, .int .u8 0, .int .u8 0, .int .u8 0] 50)).heap[w3.heap.size]? = some (.cells (B8 z32) 50 (0, 0)) := heap_alloc_new w3 _
  have hS5 := hS4.out.call hB
  have hne : g ≠ w3.heap.size := fun e => by have := blk_lt (hS4.out.get g l0 (by simp)); omega
  have hS6 : AB w [(w3.heap.size, z32), (g, l0)] (w3.alloc (.cells #[.int .u8 0, .int .u8 0, .int .u8 0, .int .u8 0, .int .u8 0, .int .u8 0, .int .u8 0, .int .u8 0, .int .u8 0, .int .u8 0, .int .u8 0, .int .u8 0, .int .u8 0, .int .u8 0, .int .u8 0, .int .u8 0, .int .u8 0, .int .u8 0, .int .u8 0, .int .u8 0, .int .u8 0, .int .u8 0, .int .u8 0, .int .u8 0, .int .u8 0, .int .u8 0, .int .u8 0, .int .u8 0, .int .u8 0, .int .u8 0, .int .u8 0, .int .u8 0] 50)) := hS5.add hS4.out.below.size hnew
  have R4c := Lib.hid (R4b.out.below hB)
  have R6c := Lib.hid (R6.out.below hB)
  have q0 := b8_cell hnew 0 (by decide)
  have f0 := blk_frozen hnew 0
  have hB2 : Below w3.heap.size w3 ((w3.alloc (.cells #[.int .u8 0, .int .u8 0, .int .u8 0, .int .u8 0, .int .u8 0, .int .u8 0, .int .u8 0, .int .u8 0, .int .u8 0, .int .u8 0, .int .u8 0, .int .u8 0, .int .u8 0, .int .u8 0, .int .u8 0, .int .u8 0, .int .u8 0, .int .u8 0, .int .u8 0, .int .u8 0, .int .u8 0, .int .u8 0, .int .u8 0, .int .u8 0, .int .u8 0, .int .u8 0, .int .u8 0, .int .u8 0, .int .u8 0, .int .u8 0, .int .u8 0, .int .u8 0] 50)).setCell ⟨w3.heap.size, 0, none⟩ (.int .u8 9)) := hB.setCell (by dsimp only; omega) _
  have hS7 := hS6.put (fun y hy => by simp only [List.mem_cons, List.not_mem_nil, or_false] at hy; subst hy; exact hne) 0 9
  have R4d := Lib.hid (R4b.out.below hB2)
  have R6d := Lib.hid (R6.out.below hB2)
  clear R4b R6 R4c R6c hS5 hS6 hB hB2 hS4 hnew hne
  obtain ⟨w4, hw4⟩ : ∃ y, w3.alloc (.cells #[.int .u8 0, .int .u8 0, .int .u8 0, .int .u8 0, .int .u8 0, .int .u8 0, .int .u8 0, .int .u8 0, .int .u8 0, .int .u8 0, .int .u8 0, .int .u8 0, .int .u8 0, .int .u8 0, .int .u8 0, .int .u8 0, .int .u8 0, .int .u8 0, .int .u8 0, .int .u8 0, .int .u8 0, .int .u8 0, .int .u8 0, .int .u8 0, .int .u8 0, .int .u8 0, .int .u8 0, .int .u8 0, .int .u8 0, .int .u8 0, .int .u8 0, .int .u8 0] 50) = y := ⟨_, rfl⟩
  rw [hw4] at q0 f0 hS7 R4d R6d ⊢
  obtain ⟨g8, hg8⟩ : ∃ y, w3.heap.size = y := ⟨_, rfl⟩
  rw [hg8] at q0 f0 hS7 R4d R6d ⊢
  have HS7 : Hid (AB w [(g8, nine), (g, l0)] (w4.setCell ⟨g8, 0, none⟩ (.int .u8 9))) := hS7
  clear hw4 hg8 hS7
  go_upto_region 8 with fail
  obtain ⟨w5, hw5⟩ : ∃ y, (w4.setCell ⟨g8, 0, none⟩ (.int .u8 9)).drew = y := ⟨_, rfl⟩
  have hst := HS7.out.drew
  have R4e := R4d.out.below (Below.refl _ _).drew
  have R6e := R6d.out.below (Below.refl _ _).drew
  rw [hw5] at hst R4e R6e
  have R4f := Lib.hid R4e
  have R6f := Lib.hid R6e
  clear q0 f0 R4d R6d R4e R6e HS7
  refine wp_region_held_drew (S := AB w [(g8, nine), (g, l0)]) (by kernel_rfl) (by rw [hw5]; exact hst) (fun _ => ?_)
  rw [hw5]
  clear hw5
  try simp only [Act.put]
  refine wpAnyH_take (i := 0) (oi := p18_0) (v := .slice (some ⟨g, 0, none⟩) 32 32) rfl (by kernel_rfl) (by kernel_rfl) (by kernel_rfl) (fun _ _ _ h => h) (Or.inl ⟨by rfl, fun w' _ => sl50' rfl⟩) hst ?_
  unfold p18_0; simp only [Act.put, List.setIfInBounds_toArray, List.set_cons_zero, List.set_cons_succ]
  refine wpAnyH_take (i := 1) (oi := p18_1) (v := .slice (some ⟨g8, 0, none⟩) 32 32) rfl (by kernel_rfl) (by kernel_rfl) (by kernel_rfl) (fun _ _ _ h => h) (Or.inl ⟨by rfl, fun w' _ => sl50' rfl⟩) hst ?_
  unfold p18_1; simp only [Act.put, List.setIfInBounds_toArray, List.set_cons_zero, List.set_cons_succ]
  refine wpAnyH_ready (rs := [2]) (by kernel_rfl) (by simp) ?_
  refine AllReadyH.cons (o := p18_2) rfl (fun K hK => ?_) ?_
  ·
   unfold p18_2; go_simp; refine (K42.out _ (by omega) (hst.row g l0 (by simp) HL.out) (hst.row g8 nine (by simp) rfl)).mono ?_; rintro e wz ⟨A9, c9, rfl, hr, hq, hb⟩
   have HR := Lib.hid hr
   have R4g := Lib.hid (R4f.out.below hb)
   have R6g := Lib.hid (R6f.out.below hb)
   clear hr hq
   refine hK.out _ _ (hst.call hb) (fun h1 => ?_)
   clear hK K hb
   refine wpAnyH_take (i := 3) (oi := p18_3) (v := .tuple #[.slice A9 32 c9, .int .i64 0]) rfl (by kernel_rfl) (by kernel_rfl) (by kernel_rfl) (fun _ _ _ h => h) (Or.inl ⟨by rfl, fun w' _ => by rfl⟩) h1 ?_
   unfold p18_3; simp only [Act.put, List.setIfInBounds_toArray, List.set_cons_zero, List.set_cons_succ]
   refine wpAnyH_take (i := 4) (oi := p18_4) (v := .slice A9 32 c9) rfl (by kernel_rfl) (by kernel_rfl) (by kernel_rfl) (fun _ _ _ h => h) (Or.inl ⟨by rfl, fun w' _ => by rfl⟩) h1 ?_
   unfold p18_4; simp only [Act.put, List.setIfInBounds_toArray, List.set_cons_zero, List.set_cons_succ]
   refine wpAnyH_take (i := 5) (oi := p18_5) (v := .int .i64 0) rfl (by kernel_rfl) (by kernel_rfl) (by kernel_rfl) (fun _ _ _ h => h) (Or.inl ⟨by rfl, fun w' _ => by rfl⟩) h1 ?_
   unfold p18_5; simp only [Act.put, List.setIfInBounds_toArray, List.set_cons_zero, List.set_cons_succ]
   refine wpAnyH_take (i := 6) (oi := p18_6) (v := .slice A9 32 c9) rfl (by kernel_rfl) (by kernel_rfl) (by kernel_rfl) (fun _ _ _ h => h) (Or.inl ⟨by rfl, fun w' _ => by rfl⟩) h1 ?_
   unfold p18_6; simp only [Act.put, List.setIfInBounds_toArray, List.set_cons_zero, List.set_cons_succ]
   refine wpAnyH_take (i := 7) (oi := p18_7) (v := .int .i64 0) rfl (by kernel_rfl) (by kernel_rfl) (by kernel_rfl) (fun _ _ _ h => h) (Or.inl ⟨by rfl, fun w' _ => by rfl⟩) h1 ?_
   unfold p18_7; simp only [Act.put, List.setIfInBounds_toArray, List.set_cons_zero, List.set_cons_succ]
   refine wpAnyH_done (by kernel_rfl) ?_ _
   have HE := Lib.hid h1.below
   have v1 := conv_C (c := c4) R4g.out.r
   have v2 := conv_C (c := c6) R6g.out.r
   have v3 := conv_C (c := c9) HR.out.r
   go_wp2
   go_ret
   exact ⟨rfl, HE.out⟩
  exact AllReadyH.nil
end Go.Proofs.Ytfklojheogidpaa
