import Derived.Test.YtfklojheogidpaaCy
set_option linter.unusedVariables false
set_option linter.unusedSimpArgs false
namespace Go.Proofs.Ytfklojheogidpaa
open Go.RowKit Go.Proofs.YtfklojheogidpaaW.PrintWords Go.Proofs.YtfklojheogidpaaW.PrintLast Go.Proofs.YtfklojheogidpaaW.PrintMore
section
variable {ops : Array Oper} {o : Oper} {a : Act} {w : World} {K : Act → World → Prop} {Q : Exit → Act → World → Prop} {X : Prop}
theorem step_conv (hw : Region.wanted o (yielded ops a.tmps) = true) (x : Operand) (ho : o.op = .convert 22 9 x) (A : Option Addr) (n c : Nat) (l : List Int) (hx : a.eval x = .slice A n c) (hC : Kd.C (Kd.int .u8) w A n l)
    (h : K (a.put o.dst (.string (strOfNums l))) w) : if Region.wanted o (yielded ops a.tmps) = true then Oper.wp Try.prog o a w K Q else X := by
  rw [if_pos hw]
  have hrun := conv_C (c := c) hC
  unfold Oper.wp
  simp [execOp, ho, hx, hrun]
  exact h
end

/-- Rows of bytes that are read. -/
structure RL (W0 : World) (fs : List (Option Addr × Nat × List Int)) (w : World) : Prop where
  below : Below W0.heap.size W0 w
  facts : ∀ y ∈ fs, RC w y.1 y.2.1 y.2.2
section
variable {W0 w w' : World} {fs : List (Option Addr × Nat × List Int)}
theorem RL.call (h : RL W0 fs w) (hb : Below w.heap.size w w') : RL W0 fs w' := ⟨h.below.trans (hb.mono h.below.size), fun y hy => (h.facts y hy).below hb⟩
theorem RL.drew (h : RL W0 fs w) : RL W0 fs w.drew := h.call (Below.refl _ _).drew
theorem RL.add (h : RL W0 fs w) {A : Option Addr} {n : Nat} {l : List Int} (hs : RC w A n l) : RL W0 ((A, n, l) :: fs) w := ⟨h.below, fun y hy => by
  rcases List.mem_cons.1 hy with rfl | hy
  · exact hs
  · exact h.facts y hy⟩
theorem RL.get (h : RL W0 fs w) (A : Option Addr) (n : Nat) (l : List Int) (hm : (A, n, l) ∈ fs) : RC w A n l := h.facts (A, n, l) hm
end
theorem yconvL {ops : Array Oper} {W0 : World} {fs : List (Option Addr × Nat × List Int)} {op : Oper} {a : Act} (hw : Region.wanted op (yielded ops a.tmps) = true) (x : Operand) (ho : op.op = .convert 22 9 x) (A : Option Addr) (n c : Nat) (l : List Int) (hm : (A, n, l) ∈ fs) (hx : a.eval x = .slice A n c) : YieldsIf Try.prog ops (RL W0 fs) op (.string (strOfNums l)) a :=
  .inl ⟨hw, fun w hS => by
    have h := conv_C (c := c) (hS.get A n l hm).r
    simp [execOp, ho, hx, h]⟩
theorem smul_clamped (k u : List Int) (hk : k.length = 32) (hb : Bytes k) : smul (clampL k) u = smul k u := by
  unfold smul ladN
  rw [clampL_twice k hb hk]
abbrev c10_0 : Oper := { dst := some 43, op := Op.move (Operand.tmp 5), type := 53, pos := "law.go:60", after := #[], guard := none }
abbrev c10_1 : Oper := { dst := some 44, op := Op.binOp BinOp.eql 53 (Operand.tmp 43) (Operand.const (Value.int IntKind.i64 0)) 53, type := 4, pos := "law.go:60", after := #[{ on := 0, ground := Ground.data }], guard := none }
abbrev c10_2 : Oper := { dst := some 45, op := Op.move (Operand.tmp 44), type := 4, pos := "law.go:60", after := #[{ on := 1, ground := Ground.data }], guard := none }
abbrev c10_3 : Oper := { dst := some 46, op := Op.move (Operand.tmp 4), type := 22, pos := "law.go:60", after := #[{ on := 2, ground := Ground.guard }], guard := some (2, true) }
abbrev c10_4 : Oper := { dst := some 47, op := Op.convert 22 9 (Operand.tmp 46), type := 9, pos := "law.go:60", after := #[{ on := 3, ground := Ground.data }, { on := 2, ground := Ground.guard }], guard := some (2, true) }
abbrev c10_5 : Oper := { dst := some 48, op := Op.move (Operand.tmp 0), type := 22, pos := "law.go:60", after := #[{ on := 2, ground := Ground.guard }], guard := some (2, true) }
abbrev c10_6 : Oper := { dst := some 49, op := Op.call { callee := Callee.value (Operand.func 49), args := #[Operand.tmp 48], argTypes := #[22] }, type := 22, pos := "law.go:60", after := #[{ on := 5, ground := Ground.data }, { on := 2, ground := Ground.chain }, { on := 2, ground := Ground.guard }], guard := some (2, true) }
abbrev c10_7 : Oper := { dst := some 50, op := Op.convert 22 9 (Operand.tmp 49), type := 9, pos := "law.go:60", after := #[{ on := 6, ground := Ground.data }, { on := 2, ground := Ground.guard }], guard := some (2, true) }
abbrev c10_8 : Oper := { dst := some 51, op := Op.binOp BinOp.eql 9 (Operand.tmp 47) (Operand.tmp 50) 9, type := 4, pos := "law.go:60", after := #[{ on := 4, ground := Ground.data }, { on := 7, ground := Ground.data }, { on := 2, ground := Ground.guard }], guard := some (2, true) }
abbrev c10_9 : Oper := { dst := some 52, op := Op.pick (Operand.tmp 45) (Operand.tmp 51) (Operand.const (Value.bool false)), type := 4, pos := "law.go:60", after := #[{ on := 2, ground := Ground.data }, { on := 8, ground := Ground.data }], guard := none }
abbrev c10_10 : Oper := { dst := some 53, op := Op.move (Operand.tmp 52), type := 4, pos := "law.go:60", after := #[{ on := 9, ground := Ground.data }, { on := 6, ground := Ground.chain }], guard := none }
abbrev c10_11 : Oper := { dst := some 54, op := Op.move (Operand.tmp 6), type := 22, pos := "law.go:60", after := #[{ on := 10, ground := Ground.guard }], guard := some (10, true) }
abbrev c10_12 : Oper := { dst := some 55, op := Op.convert 22 9 (Operand.tmp 54), type := 9, pos := "law.go:60", after := #[{ on := 11, ground := Ground.data }, { on := 10, ground := Ground.guard }], guard := some (10, true) }
abbrev c10_13 : Oper := { dst := some 56, op := Op.move (Operand.tmp 8), type := 22, pos := "law.go:60", after := #[{ on := 10, ground := Ground.guard }], guard := some (10, true) }
abbrev c10_14 : Oper := { dst := some 57, op := Op.convert 22 9 (Operand.tmp 56), type := 9, pos := "law.go:60", after := #[{ on := 13, ground := Ground.data }, { on := 10, ground := Ground.guard }], guard := some (10, true) }
abbrev c10_15 : Oper := { dst := some 58, op := Op.binOp BinOp.eql 9 (Operand.tmp 55) (Operand.tmp 57) 9, type := 4, pos := "law.go:60", after := #[{ on := 12, ground := Ground.data }, { on := 14, ground := Ground.data }, { on := 10, ground := Ground.guard }], guard := some (10, true) }
abbrev c10_16 : Oper := { dst := some 59, op := Op.pick (Operand.tmp 53) (Operand.tmp 58) (Operand.const (Value.bool false)), type := 4, pos := "law.go:60", after := #[{ on := 10, ground := Ground.data }, { on := 15, ground := Ground.data }], guard := none }
abbrev c10_17 : Oper := { dst := some 11, op := Op.assign (Operand.tmp 59), type := 4, pos := "law.go:60", after := #[{ on := 16, ground := Ground.data }, { on := 10, ground := Ground.chain }, { on := 0, ground := Ground.phase }, { on := 1, ground := Ground.phase }, { on := 2, ground := Ground.phase }, { on := 3, ground := Ground.phase }, { on := 4, ground := Ground.phase }, { on := 5, ground := Ground.phase }, { on := 6, ground := Ground.phase }, { on := 7, ground := Ground.phase }, { on := 8, ground := Ground.phase }, { on := 9, ground := Ground.phase }, { on := 10, ground := Ground.phase }, { on := 11, ground := Ground.phase }, { on := 12, ground := Ground.phase }, { on := 13, ground := Ground.phase }, { on := 14, ground := Ground.phase }, { on := 15, ground := Ground.phase }, { on := 16, ground := Ground.phase }], guard := none }
set_option maxHeartbeats 4000000 in
set_option maxRecDepth 100000 in
theorem walk_CurveClamps (w : World) (A0 : Option Addr) (c0 : Nat) (l0 : List Int)
    (hC0 : Kd.C (Kd.int .u8) w A0 l0.length l0) (hc0 : l0.length ≤ c0) (hy0 : l0.length * 1 ≤ 140737488351232) (hw0 : ∀ x ∈ l0, 0 ≤ x ∧ x ≤ 255) :
    Calls Try.prog 15 #[.slice A0 l0.length c0] w fun e w' => e = .returned (.bool true) ∧ Below w.heap.size w w' := by
  have B0 : Bytes l0 := fun x hx => ⟨(hw0 x hx).1, by have := (hw0 x hx).2; omega⟩
  by_cases h32 : l0.length = 32
  · rw [h32] at hC0 hc0 ⊢
    obtain ⟨r, hr⟩ : ∃ r, smul l0 nine = r := ⟨_, rfl⟩
    have hCl : (clampL l0).length = 32 := (clampL_length l0).trans h32
    have KC := Lib.hid (fun W (h : RC W A0 32 l0) => clamp_any l0 A0 c0 W h.r hc0 B0 h32)
    have KR := Lib.hid (fun W (h : RC W A0 32 l0) => rClamp l0 A0 c0 W h.r hc0 B0 h32)
    have KP := Lib.hid (fun W (h : RC W A0 32 l0) => k46 l0 h32 B0 r hr W hc0 h)
    have KQ : Hid (∀ W {A : Option Addr} {c : Nat}, 32 ≤ c → RC W A 32 (clampL l0) → Calls Try.prog 46 #[.slice A 32 c] W fun e w' => ∃ A' c', e = .returned (.tuple #[.slice A' 32 c', .int .i64 0]) ∧ RC w' A' 32 r ∧ 32 ≤ c' ∧ Below W.heap.size W w') := fun W A c h1 h2 => k46 (clampL l0) hCl (clampL_bytes l0 B0) r (by rw [smul_clamped l0 nine h32 B0, hr]) W h1 h2
    have R0 : Hid (RC w A0 32 l0) := ⟨hC0⟩
    have HL := Lib.hid h32
    obtain ⟨k, hk⟩ : ∃ k, clampL l0 = k := ⟨_, rfl⟩
    rw [hk] at KC KR KQ hCl
    have HK := Lib.hid hCl
    clear hC0 hc0 hy0 hw0 B0 hr hCl hk h32
    go_enter Try.func15, Try.ntmps15
    go_wp2_with fail
    refine (awake_any _).mono ?_
    rintro e w1 ⟨rfl, b⟩
    have HB1 := Lib.hid b
    have R1 := Lib.hid (R0.out.below b)
    clear b
    go_wp2_with fail
    refine (KC.out w1 R1.out).mono ?_
    rintro e w2 ⟨g, cap, rfl, hO, b⟩
    have hcap := hO.len
    rw [HK.out] at hcap
    have hrow := hO.row
    rw [HK.out] at hrow
    obtain ⟨gb, cap', ev, hge, hgl, cs, hcs⟩ := Kd.R_form hO.r (by have := HK.out; omega)
    cases ev
    have HG : Hid (w.heap.size ≤ g) := Nat.le_trans HB1.out.size hge
    have S2 : Hid (RL w [(some ⟨g, 0, none⟩, 32, k), (A0, 32, l0)] w2) := by
      have h1 : RL w [(A0, 32, l0)] w2 := ⟨HB1.out.trans (b.mono HB1.out.size), fun y hy => by
        simp only [List.mem_cons, List.not_mem_nil, or_false] at hy
        subst hy
        exact R1.out.below b⟩
      exact h1.add hrow
    have hcell : ∀ i, i < 32 → ∃ v, cs[i]? = some (.int .u8 v) := fun i hi => ⟨_, (blk_cell hcs i).symm.trans (hrow.cell i hi)⟩
    have HC := Lib.hid hcell
    have HX := Lib.hid hcs
    have HCap := Lib.hid hcap
    clear hO b hcap hrow hge hgl hcs hcell R1 HB1 KC
    go_wp2_with fail
    refine (KP.out w2 (S2.out.get A0 32 l0 (by simp))).mono ?_
    rintro e w3 ⟨A6, c6, rfl, hr6, _, b⟩
    have S3 := Lib.hid ((S2.out.call b).add hr6)
    have HX3 := Lib.hid ((b.block _ (blk_lt HX.out)).trans HX.out)
    clear b hr6 S2 HX KP
    go_wp2_with fail
    refine (KQ.out w3 HCap.out (S3.out.get (some ⟨g, 0, none⟩) 32 k (by simp))).mono ?_
    rintro e w4 ⟨A8, c8, rfl, hr8, _, b⟩
    have S4 := Lib.hid ((S3.out.call b).add hr8)
    have HX4 := Lib.hid ((b.block _ (blk_lt HX3.out)).trans HX3.out)
    clear b hr8 S3 HX3 KQ
    have v0 := conv_C (c := c0) (S4.out.get A0 32 l0 (by simp)).r
    go_upto_region 10 with fail
    clear v0
    have hst := S4.out.drew
    have hx := (((Below.refl w4.heap.size w4).drew).block _ (blk_lt HX4.out)).trans HX4.out
    obtain ⟨wd, hwd⟩ : ∃ y, w4.drew = y := ⟨_, rfl⟩
    rw [hwd] at hst hx
    have HX5 := Lib.hid hx
    refine wp_region_held_drew (S := RL w [(A8, 32, r), (A6, 32, r), (some ⟨g, 0, none⟩, 32, k), (A0, 32, l0)]) (by kernel_rfl) (by rw [hwd]; exact hst) (fun _ => ?_)
    rw [hwd]
    clear hwd S4 HX4 hx
    try simp only [Act.put]
    refine wpAnyH_take (i := 0) (oi := c10_0) (v := .int .i64 0) rfl (by kernel_rfl) (by kernel_rfl) (by kernel_rfl) (fun _ _ _ h => h) (Or.inl ⟨by rfl, fun w' _ => by rfl⟩) hst ?_
    unfold c10_0; simp only [Act.put, List.setIfInBounds_toArray, List.set_cons_zero, List.set_cons_succ]
    refine wpAnyH_take (i := 1) (oi := c10_1) (v := .bool true) rfl (by kernel_rfl) (by kernel_rfl) (by kernel_rfl) (fun _ _ _ h => h) (Or.inl ⟨by rfl, fun w' _ => by rfl⟩) hst ?_
    unfold c10_1; simp only [Act.put, List.setIfInBounds_toArray, List.set_cons_zero, List.set_cons_succ]
    refine wpAnyH_take (i := 2) (oi := c10_2) (v := .bool true) rfl (by kernel_rfl) (by kernel_rfl) (by kernel_rfl) (fun _ _ _ h => h) (Or.inl ⟨by rfl, fun w' _ => by rfl⟩) hst ?_
    unfold c10_2; simp only [Act.put, List.setIfInBounds_toArray, List.set_cons_zero, List.set_cons_succ]
    refine wpAnyH_take (i := 3) (oi := c10_3) (v := .slice (some ⟨g, 0, none⟩) 32 cap) rfl (by kernel_rfl) (by kernel_rfl) (by kernel_rfl) (fun _ _ _ h => h) (Or.inl ⟨by rfl, fun w' _ => by rfl⟩) hst ?_
    unfold c10_3; simp only [Act.put, List.setIfInBounds_toArray, List.set_cons_zero, List.set_cons_succ]
    refine wpAnyH_take (i := 4) (oi := c10_4) (v := .string (strOfNums k)) rfl (by kernel_rfl) (by kernel_rfl) (by kernel_rfl) (fun _ _ _ h => h) (yconvL (by rfl) _ rfl (some ⟨g, 0, none⟩) 32 cap k (by simp) rfl) hst ?_
    unfold c10_4; simp only [Act.put, List.setIfInBounds_toArray, List.set_cons_zero, List.set_cons_succ]
    refine wpAnyH_take (i := 5) (oi := c10_5) (v := .slice A0 32 c0) rfl (by kernel_rfl) (by kernel_rfl) (by kernel_rfl) (fun _ _ _ h => h) (Or.inl ⟨by rfl, fun w' _ => by rfl⟩) hst ?_
    unfold c10_5; simp only [Act.put, List.setIfInBounds_toArray, List.set_cons_zero, List.set_cons_succ]
    refine wpAnyH_ready (rs := [6]) (by kernel_rfl) (by simp) ?_
    refine AllReadyH.cons (o := c10_6) rfl (fun K hK => ?_) ?_
    ·
     unfold c10_6; go_simp; refine (KR.out _ (hst.get A0 32 l0 (by simp))).mono ?_; rintro e w5 ⟨g9, c9, rfl, hr9, hb⟩
     have R9 := Lib.hid hr9
     have HX6 := Lib.hid ((hb.block _ (blk_lt HX5.out)).trans HX5.out)
     clear hr9
     refine hK.out _ _ (hst.call hb) (fun h1 => ?_)
     clear hK K hb
     refine wpAnyH_ready (rs := [7]) (by kernel_rfl) (by simp) ?_
     refine AllReadyH.cons (o := c10_7) rfl (fun K hK => ?_) ?_
     ·
      unfold c10_7; refine step_conv rfl _ rfl (some ⟨g9, 0, none⟩) 32 c9 k rfl R9.out.r ?_
      refine hK.out _ _ h1 (fun h2 => ?_)
      clear hK K
      refine wpAnyH_take (i := 8) (oi := c10_8) (v := .bool true) rfl (by kernel_rfl) (by kernel_rfl) (by kernel_rfl) (fun _ _ _ h => h) (Or.inl ⟨by rfl, fun w' _ => eqS rfl rfl⟩) h2 ?_
      unfold c10_8; simp only [Act.put, List.setIfInBounds_toArray, List.set_cons_zero, List.set_cons_succ]
      refine wpAnyH_take (i := 9) (oi := c10_9) (v := .bool true) rfl (by kernel_rfl) (by kernel_rfl) (by kernel_rfl) (fun _ _ _ h => h) (Or.inl ⟨by rfl, fun w' _ => by rfl⟩) h2 ?_
      unfold c10_9; simp only [Act.put, List.setIfInBounds_toArray, List.set_cons_zero, List.set_cons_succ]
      refine wpAnyH_take (i := 10) (oi := c10_10) (v := .bool true) rfl (by kernel_rfl) (by kernel_rfl) (by kernel_rfl) (fun _ _ _ h => h) (Or.inl ⟨by rfl, fun w' _ => by rfl⟩) h2 ?_
      unfold c10_10; simp only [Act.put, List.setIfInBounds_toArray, List.set_cons_zero, List.set_cons_succ]
      refine wpAnyH_take (i := 11) (oi := c10_11) (v := .slice A6 32 c6) rfl (by kernel_rfl) (by kernel_rfl) (by kernel_rfl) (fun _ _ _ h => h) (Or.inl ⟨by rfl, fun w' _ => by rfl⟩) h2 ?_
      unfold c10_11; simp only [Act.put, List.setIfInBounds_toArray, List.set_cons_zero, List.set_cons_succ]
      refine wpAnyH_take (i := 12) (oi := c10_12) (v := .string (strOfNums r)) rfl (by kernel_rfl) (by kernel_rfl) (by kernel_rfl) (fun _ _ _ h => h) (yconvL (by rfl) _ rfl A6 32 c6 r (by simp) rfl) h2 ?_
      unfold c10_12; simp only [Act.put, List.setIfInBounds_toArray, List.set_cons_zero, List.set_cons_succ]
      refine wpAnyH_take (i := 13) (oi := c10_13) (v := .slice A8 32 c8) rfl (by kernel_rfl) (by kernel_rfl) (by kernel_rfl) (fun _ _ _ h => h) (Or.inl ⟨by rfl, fun w' _ => by rfl⟩) h2 ?_
      unfold c10_13; simp only [Act.put, List.setIfInBounds_toArray, List.set_cons_zero, List.set_cons_succ]
      refine wpAnyH_take (i := 14) (oi := c10_14) (v := .string (strOfNums r)) rfl (by kernel_rfl) (by kernel_rfl) (by kernel_rfl) (fun _ _ _ h => h) (yconvL (by rfl) _ rfl A8 32 c8 r (by simp) rfl) h2 ?_
      unfold c10_14; simp only [Act.put, List.setIfInBounds_toArray, List.set_cons_zero, List.set_cons_succ]
      refine wpAnyH_take (i := 15) (oi := c10_15) (v := .bool true) rfl (by kernel_rfl) (by kernel_rfl) (by kernel_rfl) (fun _ _ _ h => h) (Or.inl ⟨by rfl, fun w' _ => eqS rfl rfl⟩) h2 ?_
      unfold c10_15; simp only [Act.put, List.setIfInBounds_toArray, List.set_cons_zero, List.set_cons_succ]
      refine wpAnyH_take (i := 16) (oi := c10_16) (v := .bool true) rfl (by kernel_rfl) (by kernel_rfl) (by kernel_rfl) (fun _ _ _ h => h) (Or.inl ⟨by rfl, fun w' _ => by rfl⟩) h2 ?_
      unfold c10_16; simp only [Act.put, List.setIfInBounds_toArray, List.set_cons_zero, List.set_cons_succ]
      refine wpAnyH_take (i := 17) (oi := c10_17) (v := .bool true) rfl (by kernel_rfl) (by kernel_rfl) (by kernel_rfl) (fun _ _ _ h => h) (Or.inl ⟨by rfl, fun w' _ => by rfl⟩) h2 ?_
      unfold c10_17; simp only [Act.put, List.setIfInBounds_toArray, List.set_cons_zero, List.set_cons_succ]
      refine wpAnyH_done (by kernel_rfl) ?_ _
      have HS := Lib.hid (h2.below)
      clear h2 hst
      have HE : Hid (RC w5 A0 32 l0) := R0.out.below HS.out
      go_wp2_with fail
      go_loopw [12] (fun s12 wr => ∃ (j : Nat) (cs : Array Value), j ≤ 32 ∧ s12 = .int .i64 j ∧ Below w.heap.size w wr ∧ wr.heap[g]? = some (.cells cs 5 (0, 0)) ∧ (∀ i, i < 32 → ∃ v, cs[i]? = some (.int .u8 v))) (fun s12 _ => 32 - (intOf s12).toNat)
      case atStart => exact ⟨0, cs, by omega, rfl, HS.out, HX6.out, HC.out⟩
      case round =>
        obtain ⟨j, cs2, hj, rfl, hB, hx, hc⟩ := hrel
        by_cases hlt : j < 32
        · obtain ⟨v, hv⟩ := hc j hlt
          have hcell := (blk_cell hx j).trans hv
          have hfz := blk_frozen hx j
          have HBr := Lib.hid hB
          have HXr := Lib.hid hx
          have HCr := Lib.hid hc
          clear hB hx hc
          go_wp2_with fail
          go_roundw
          case rel => exact ⟨j + 1, _, by omega, by go_num, HBr.out.setCell (p := ⟨g, j, none⟩) HG.out _, blk_set HXr.out j _, fun i hi => by
            obtain ⟨u, hu⟩ := HCr.out i hi
            rw [Array.getElem?_setIfInBounds]
            split
            · split
              · exact ⟨_, rfl⟩
              · next h1 h2 => subst h1; rw [Array.getElem?_eq_none (by omega)] at hu; cases hu
            · exact ⟨u, hu⟩⟩
          case measure => simp [intOf] <;> omega
        · obtain rfl : j = 32 := by omega
          have HBr := Lib.hid hB
          have v1 := conv_C (c := c0) (R0.out.below hB).r
          clear hx hc hB
          go_wp2
          go_ret
          exact ⟨rfl, HBr.out⟩
     exact AllReadyH.nil
    exact AllReadyH.nil
  · have R0 : Hid (RC w A0 l0.length l0) := ⟨hC0⟩
    have KC := Lib.hid (fun W => clamp_bad l0 A0 c0 W h32)
    have hd : decide ((l0.length : Int) = 32) = false := decide_eq_false (by omega)
    have hd2 : ¬ ((l0.length : Int) = 32) := by omega
    clear hC0 hc0 hw0 hy0 h32
    go_enter Try.func15, Try.ntmps15
    go_wp2_with fail
    refine (awake_any _).mono ?_
    rintro e w1 ⟨rfl, b⟩
    have HB1 := Lib.hid b
    clear b
    go_wp2_with fail
    refine (KC.out w1).mono ?_
    rintro e w2 ⟨rfl, b⟩
    have HB2 := Lib.hid (HB1.out.trans (b.mono HB1.out.size))
    clear b
    go_wp2
    go_ret
    exact ⟨rfl, HB2.out⟩
end Go.Proofs.Ytfklojheogidpaa
