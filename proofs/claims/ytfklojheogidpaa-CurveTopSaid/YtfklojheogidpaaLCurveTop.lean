import Derived.Test.YtfklojheogidpaaCy
set_option linter.unusedVariables false
set_option linter.unusedSimpArgs false
namespace Go.Proofs.Ytfklojheogidpaa
open Go.RowKit Go.Proofs.YtfklojheogidpaaW.PrintWords Go.Proofs.YtfklojheogidpaaW.PrintLast Go.Proofs.YtfklojheogidpaaW.PrintMore
abbrev t4_0 : Oper := { dst := some 16, op := Op.slice 50 (Operand.tmp 3) none none none, type := 22, pos := "law.go:86", after := #[], guard := none }
abbrev t4_1 : Oper := { dst := some 17, op := Op.slice 50 (Operand.tmp 4) none none none, type := 22, pos := "law.go:86", after := #[], guard := none }
abbrev t4_2 : Oper := { dst := some 18, op := Op.call { callee := Callee.value (Operand.func 42), args := #[Operand.tmp 16, Operand.tmp 17], argTypes := #[22, 22] }, type := 54, pos := "law.go:86", after := #[{ on := 0, ground := Ground.data }, { on := 1, ground := Ground.data }], guard := none }
abbrev t4_3 : Oper := { dst := some 15, op := Op.move (Operand.tmp 18), type := 54, pos := "law.go:86", after := #[{ on := 2, ground := Ground.data }], guard := none }
abbrev t4_4 : Oper := { dst := some 19, op := Op.extract (Operand.tmp 15) 0, type := 22, pos := "law.go:86", after := #[{ on := 3, ground := Ground.data }], guard := none }
abbrev t4_5 : Oper := { dst := some 20, op := Op.extract (Operand.tmp 15) 1, type := 53, pos := "law.go:86", after := #[{ on := 3, ground := Ground.data }, { on := 6, ground := Ground.gcOnly Departure.lateStores }], guard := none }
abbrev t4_6 : Oper := { dst := some 8, op := Op.assign (Operand.tmp 19), type := 22, pos := "law.go:86", after := #[{ on := 4, ground := Ground.data }, { on := 2, ground := Ground.chain }, { on := 0, ground := Ground.phase }, { on := 1, ground := Ground.phase }, { on := 2, ground := Ground.phase }, { on := 3, ground := Ground.phase }, { on := 4, ground := Ground.phase }, { on := 5, ground := Ground.textOnly Departure.lateStores }], guard := none }
abbrev t4_7 : Oper := { dst := some 9, op := Op.assign (Operand.tmp 20), type := 53, pos := "law.go:86", after := #[{ on := 5, ground := Ground.data }, { on := 6, ground := Ground.chain }, { on := 0, ground := Ground.phase }, { on := 1, ground := Ground.phase }, { on := 2, ground := Ground.phase }, { on := 3, ground := Ground.phase }, { on := 4, ground := Ground.phase }, { on := 5, ground := Ground.phase }, { on := 6, ground := Ground.phase }], guard := none }
abbrev t8_0 : Oper := { dst := some 38, op := Op.slice 50 (Operand.tmp 3) none none none, type := 22, pos := "law.go:90", after := #[], guard := none }
abbrev t8_1 : Oper := { dst := some 39, op := Op.slice 50 (Operand.tmp 4) none none none, type := 22, pos := "law.go:90", after := #[], guard := none }
abbrev t8_2 : Oper := { dst := some 40, op := Op.call { callee := Callee.value (Operand.func 42), args := #[Operand.tmp 38, Operand.tmp 39], argTypes := #[22, 22] }, type := 54, pos := "law.go:90", after := #[{ on := 0, ground := Ground.data }, { on := 1, ground := Ground.data }], guard := none }
abbrev t8_3 : Oper := { dst := some 37, op := Op.move (Operand.tmp 40), type := 54, pos := "law.go:90", after := #[{ on := 2, ground := Ground.data }], guard := none }
abbrev t8_4 : Oper := { dst := some 41, op := Op.extract (Operand.tmp 37) 0, type := 22, pos := "law.go:90", after := #[{ on := 3, ground := Ground.data }], guard := none }
abbrev t8_5 : Oper := { dst := some 42, op := Op.extract (Operand.tmp 37) 1, type := 53, pos := "law.go:90", after := #[{ on := 3, ground := Ground.data }, { on := 6, ground := Ground.gcOnly Departure.lateStores }], guard := none }
abbrev t8_6 : Oper := { dst := some 10, op := Op.assign (Operand.tmp 41), type := 22, pos := "law.go:90", after := #[{ on := 4, ground := Ground.data }, { on := 2, ground := Ground.chain }, { on := 0, ground := Ground.phase }, { on := 1, ground := Ground.phase }, { on := 2, ground := Ground.phase }, { on := 3, ground := Ground.phase }, { on := 4, ground := Ground.phase }, { on := 5, ground := Ground.textOnly Departure.lateStores }], guard := none }
abbrev t8_7 : Oper := { dst := some 11, op := Op.assign (Operand.tmp 42), type := 53, pos := "law.go:90", after := #[{ on := 5, ground := Ground.data }, { on := 6, ground := Ground.chain }, { on := 0, ground := Ground.phase }, { on := 1, ground := Ground.phase }, { on := 2, ground := Ground.phase }, { on := 3, ground := Ground.phase }, { on := 4, ground := Ground.phase }, { on := 5, ground := Ground.phase }, { on := 6, ground := Ground.phase }], guard := none }
set_option maxHeartbeats 4000000 in
set_option maxRecDepth 100000 in
theorem walk_CurveTop (w : World) (l0 : List Int) (l1 : List Int) (a2 : Int)
    (hl0 : l0.length = 32) (hw0 : ∀ x ∈ l0, 0 ≤ x ∧ x ≤ 255) (hl1 : l1.length = 32) (hw1 : ∀ x ∈ l1, 0 ≤ x ∧ x ≤ 255) (b2 : 0 ≤ a2 ∧ a2 ≤ 255) :
    Calls Try.prog 17 #[.agg (nums .u8 l0).toArray, .agg (nums .u8 l1).toArray, .int .u8 a2] w fun e w' => e = .returned (.bool true) ∧ Below w.heap.size w w' := by
  have HL := Lib.hid hl0
  have HM := Lib.hid hl1
  have LB : Hid (Bytes l0) := fun x hx => ⟨(hw0 x hx).1, by have := (hw0 x hx).2; omega⟩
  have MB : Hid (Bytes l1) := fun x hx => ⟨(hw1 x hx).1, by have := (hw1 x hx).2; omega⟩
  obtain ⟨r, hr⟩ : ∃ r, smul l0 l1 = r := ⟨_, rfl⟩
  obtain ⟨k0, hk0⟩ : ∃ v, l0.getD 0 0 = v := ⟨_, rfl⟩
  obtain ⟨k1, hk1⟩ : ∃ v, l0.getD 31 0 = v := ⟨_, rfl⟩
  obtain ⟨u1, hu1⟩ : ∃ v, l1.getD 31 0 = v := ⟨_, rfl⟩
  have k0b := LB.out.get 0
  have k1b := LB.out.get 31
  have u1b := MB.out.get 31
  rw [hk0] at k0b
  rw [hk1] at k1b
  rw [hu1] at u1b
  have p0 := low_bits k0 a2 k0b b2
  have p1 := top_bits k1 a2 k1b b2
  have p2 := xor128 u1 ⟨u1b.1, by omega⟩
  obtain ⟨KL, hK⟩ : ∃ KL, (l0.set 0 (bits .xor .u8 k0 (a2 % 8))).set 31 (bits .xor .u8 k1 (bits .and .u8 a2 192)) = KL := ⟨_, rfl⟩
  obtain ⟨U, hU⟩ : ∃ U, l1.set 31 (bits .xor .u8 u1 128) = U := ⟨_, rfl⟩
  have hr2 : smul KL U = r := by rw [← hK, ← hU, smul_top l0 l1 _ _ _ hl0 hl1 (by rw [hk0]; exact p0.2) (by rw [hk1]; exact p1.2) (by rw [hu1]; exact p2.2.2), hr]
  have hKl : KL.length = 32 := by rw [← hK]; simpa using hl0
  have hUl : U.length = 32 := by rw [← hU]; simpa using hl1
  have hKb : Bytes KL := by rw [← hK]; exact bytes_set (bytes_set LB.out _ _ p0.1) _ _ p1.1
  have hUb : Bytes U := by rw [← hU]; exact bytes_set MB.out _ _ ⟨p2.1, by omega⟩
  have K42 : Hid (∀ W {A B : Option Addr} {c d : Nat}, 32 ≤ c → RC W A 32 l0 → RC W B 32 l1 → Calls Try.prog 42 #[.slice A 32 c, .slice B 32 d] W fun e w' => ∃ g c', e = .returned (.tuple #[.slice (some ⟨g, 0, none⟩) 32 c', .int .i64 0]) ∧ RC w' (some ⟨g, 0, none⟩) 32 r ∧ (32 ≤ c' ∧ W.heap.size ≤ g) ∧ Below W.heap.size W w') := fun W A B c d h1 h2 h3 => k42o l0 l1 hl0 hl1 LB.out MB.out r hr W h1 h2 h3
  have K43 : Hid (∀ W {A B : Option Addr} {c d : Nat}, 32 ≤ c → RC W A 32 KL → RC W B 32 U → Calls Try.prog 42 #[.slice A 32 c, .slice B 32 d] W fun e w' => ∃ g c', e = .returned (.tuple #[.slice (some ⟨g, 0, none⟩) 32 c', .int .i64 0]) ∧ RC w' (some ⟨g, 0, none⟩) 32 r ∧ (32 ≤ c' ∧ W.heap.size ≤ g) ∧ Below W.heap.size W w') := fun W A B c d h1 h2 h3 => k42o KL U hKl hUl hKb hUb r hr2 W h1 h2 h3
  have HKl := Lib.hid hKl
  have HUl := Lib.hid hUl
  have HKe := Lib.hid hK
  have HUe := Lib.hid hU
  have HK0 := Lib.hid hk0
  have HK1 := Lib.hid hk1
  have HU1 := Lib.hid hu1
  obtain ⟨B0, hB0⟩ : ∃ x, (nums .u8 l0).toArray = x := ⟨_, rfl⟩
  obtain ⟨B1, hB1⟩ : ∃ x, (nums .u8 l1).toArray = x := ⟨_, rfl⟩
  rw [hB0, hB1]
  have HB0 : Hid (B0 = B8 l0) := hB0.symm
  have HB1 : Hid (B1 = B8 l1) := hB1.symm
  clear hl0 hw0 hB0 hr hl1 hw1 hB1 hk0 hk1 hu1 k0b k1b u1b p0 p1 p2 hK hU hr2 hKl hUl hKb hUb
  go_enter Try.func17, Try.ntmps17
  go_wp2_with fail
  refine (awake_any _).mono ?_
  rintro e w1 ⟨rfl, b⟩
  have hS : Hid (AB w [(w.heap.size + 1, l1), (w.heap.size, l0)] w1) := ⟨Below.trans (((Below.refl _ _).alloc (Nat.le_refl _) _).alloc (by simp) _) (b.mono (by simp; omega)), fun y hy => by
    simp only [List.mem_cons, List.not_mem_nil, or_false] at hy
    rcases hy with rfl | rfl
    · exact ⟨by dsimp only; omega, (b.block _ (by simp)).trans (by rw [← HB1.out]; exact heap_alloc2_new w _ _)⟩
    · exact ⟨Nat.le_refl _, (b.block _ (by simp; omega)).trans (by rw [← HB0.out]; exact heap_alloc2_old w _ _)⟩⟩
  obtain ⟨g, hg⟩ : ∃ y, w.heap.size = y := ⟨_, rfl⟩
  have hS2 : Hid (AB w [(g + 1, l1), (g, l0)] w1) := by rw [← hg]; exact hS.out
  rw [hg]
  clear b hS HB0 HB1 hg
  go_upto_region 4 with fail
  obtain ⟨w2, hw2⟩ : ∃ y, w1.drew = y := ⟨_, rfl⟩
  have hst := hS2.out.drew
  rw [hw2] at hst
  refine wp_region_held_drew (S := AB w [(g + 1, l1), (g, l0)]) (by kernel_rfl) (by rw [hw2]; exact hst) (fun _ => ?_)
  rw [hw2]
  clear hw2 hS2
  refine wpAnyH_take (i := 0) (oi := t4_0) (v := .slice (some ⟨g, 0, none⟩) 32 32) rfl (by kernel_rfl) (by kernel_rfl) (by kernel_rfl) (fun _ _ _ h => h) (Or.inl ⟨by rfl, fun w' _ => sl50' rfl⟩) hst ?_
  unfold t4_0; simp only [Act.put, List.setIfInBounds_toArray, List.set_cons_zero, List.set_cons_succ]
  refine wpAnyH_take (i := 1) (oi := t4_1) (v := .slice (some ⟨(g + 1), 0, none⟩) 32 32) rfl (by kernel_rfl) (by kernel_rfl) (by kernel_rfl) (fun _ _ _ h => h) (Or.inl ⟨by rfl, fun w' _ => sl50' rfl⟩) hst ?_
  unfold t4_1; simp only [Act.put, List.setIfInBounds_toArray, List.set_cons_zero, List.set_cons_succ]
  refine wpAnyH_ready (rs := [2]) (by kernel_rfl) (by simp) ?_
  refine AllReadyH.cons (o := t4_2) rfl (fun K hK => ?_) ?_
  ·
   unfold t4_2; go_simp; refine (K42.out _ (by omega) (hst.row g l0 (by simp) HL.out) (hst.row (g + 1) l1 (by simp) HM.out)).mono ?_; rintro e wzg8 ⟨g8, c8, rfl, hr, hq, hb⟩
   have HRg8 := Lib.hid hr
   have HN8 : Hid (g + 1 < g8) := Nat.lt_of_lt_of_le (blk_lt (hst.get (g + 1) l1 (by simp))) hq.2
   clear hr hq
   refine hK.out _ _ (hst.call hb) (fun h1 => ?_)
   clear hK K hb
   refine wpAnyH_take (i := 3) (oi := t4_3) (v := .tuple #[.slice (some ⟨g8, 0, none⟩) 32 c8, .int .i64 0]) rfl (by kernel_rfl) (by kernel_rfl) (by kernel_rfl) (fun _ _ _ h => h) (Or.inl ⟨by rfl, fun w' _ => by rfl⟩) h1 ?_
   unfold t4_3; simp only [Act.put, List.setIfInBounds_toArray, List.set_cons_zero, List.set_cons_succ]
   refine wpAnyH_take (i := 4) (oi := t4_4) (v := .slice (some ⟨g8, 0, none⟩) 32 c8) rfl (by kernel_rfl) (by kernel_rfl) (by kernel_rfl) (fun _ _ _ h => h) (Or.inl ⟨by rfl, fun w' _ => by rfl⟩) h1 ?_
   unfold t4_4; simp only [Act.put, List.setIfInBounds_toArray, List.set_cons_zero, List.set_cons_succ]
   refine wpAnyH_take (i := 5) (oi := t4_5) (v := .int .i64 0) rfl (by kernel_rfl) (by kernel_rfl) (by kernel_rfl) (fun _ _ _ h => h) (Or.inl ⟨by rfl, fun w' _ => by rfl⟩) h1 ?_
   unfold t4_5; simp only [Act.put, List.setIfInBounds_toArray, List.set_cons_zero, List.set_cons_succ]
   refine wpAnyH_take (i := 6) (oi := t4_6) (v := .slice (some ⟨g8, 0, none⟩) 32 c8) rfl (by kernel_rfl) (by kernel_rfl) (by kernel_rfl) (fun _ _ _ h => h) (Or.inl ⟨by rfl, fun w' _ => by rfl⟩) h1 ?_
   unfold t4_6; simp only [Act.put, List.setIfInBounds_toArray, List.set_cons_zero, List.set_cons_succ]
   refine wpAnyH_take (i := 7) (oi := t4_7) (v := .int .i64 0) rfl (by kernel_rfl) (by kernel_rfl) (by kernel_rfl) (fun _ _ _ h => h) (Or.inl ⟨by rfl, fun w' _ => by rfl⟩) h1 ?_
   unfold t4_7; simp only [Act.put, List.setIfInBounds_toArray, List.set_cons_zero, List.set_cons_succ]
   refine wpAnyH_done (by kernel_rfl) ?_ _
   have HS := Lib.hid h1
   have n1 : g + 1 ≠ g8 := by have := HN8.out; omega
   have n0 : g ≠ g8 := by have := HN8.out; omega
   have hm : ∀ y ∈ [(g, l0)], y.1 ≠ g + 1 := fun y hy => by
     simp only [List.mem_cons, List.not_mem_nil, or_false] at hy
     subst hy
     dsimp only
     omega
   have hm2 : ∀ y ∈ [(g + 1, U)], y.1 ≠ g := fun y hy => by
     simp only [List.mem_cons, List.not_mem_nil, or_false] at hy
     subst hy
     dsimp only
     omega
   have q0 := b8_cell (HS.out.get (g + 1) l1 (by simp)) 31 (by have := HM.out; omega)
   have f0 := blk_frozen (HS.out.get (g + 1) l1 (by simp)) 31
   rw [HU1.out] at q0
   have t1 := HS.out.put hm 31 (bits .xor .u8 u1 128)
   rw [HUe.out] at t1
   have ra := HRg8.out.far n1 31 (.int .u8 (bits .xor .u8 u1 128))
   clear h1 hst hm HS HRg8
   go_upto_region 6 with fail
   obtain ⟨W1, hW1⟩ : ∃ y, wzg8.setCell ⟨g + 1, 31, none⟩ (.int .u8 (bits .xor .u8 u1 128)) = y := ⟨_, rfl⟩
   rw [hW1] at t1 ra ⊢
   clear hW1 q0 f0
   have q0 := b8_cell (t1.get g l0 (by simp)) 0 (by have := HL.out; omega)
   have f0 := blk_frozen (t1.get g l0 (by simp)) 0
   rw [HK0.out] at q0
   have t2 := t1.swap.put hm2 0 (bits .xor .u8 k0 (a2 % 8))
   have rb := ra.far n0 0 (.int .u8 (bits .xor .u8 k0 (a2 % 8)))
   clear t1 ra
   have T2 := Lib.hid t2
   have RB := Lib.hid rb
   clear t2 rb
   go_upto_region 7 with fail
   have t2 := T2.out
   have rb := RB.out
   obtain ⟨W2, hW2⟩ : ∃ y, W1.setCell ⟨g, 0, none⟩ (.int .u8 (bits .xor .u8 k0 (a2 % 8))) = y := ⟨_, rfl⟩
   rw [hW2] at t2 rb ⊢
   clear hW2 q0 f0 T2 RB
   have q0 := b8_cell (t2.get g (l0.set 0 (bits .xor .u8 k0 (a2 % 8))) (by simp)) 31 (by have := HL.out; simp; omega)
   have f0 := blk_frozen (t2.get g (l0.set 0 (bits .xor .u8 k0 (a2 % 8))) (by simp)) 31
   rw [gset_ne (by omega), HK1.out] at q0
   have t3 := t2.put hm2 31 (bits .xor .u8 k1 (bits .and .u8 a2 192))
   rw [HKe.out] at t3
   have rc := rb.far n0 31 (.int .u8 (bits .xor .u8 k1 (bits .and .u8 a2 192)))
   have T3 := Lib.hid t3
   have RC3 := Lib.hid rc
   clear t2 rb t3 rc n1 n0 hm2
   go_upto_region 8 with fail
   obtain ⟨wd, hwd⟩ : ∃ y, (W2.setCell ⟨g, 31, none⟩ (.int .u8 (bits .xor .u8 k1 (bits .and .u8 a2 192)))).drew = y := ⟨_, rfl⟩
   have hst := T3.out.drew
   have r8 := RC3.out.below (Below.refl _ _).drew
   rw [hwd] at hst r8
   have R8d := Lib.hid r8
   refine wp_region_held_drew (S := AB w [(g, KL), (g + 1, U)]) (by kernel_rfl) (by rw [hwd]; exact hst) (fun _ => ?_)
   rw [hwd]
   clear hwd q0 f0 T3 RC3 r8
   try simp only [Act.put]
   refine wpAnyH_take (i := 0) (oi := t8_0) (v := .slice (some ⟨g, 0, none⟩) 32 32) rfl (by kernel_rfl) (by kernel_rfl) (by kernel_rfl) (fun _ _ _ h => h) (Or.inl ⟨by rfl, fun w' _ => sl50' rfl⟩) hst ?_
   unfold t8_0; simp only [Act.put, List.setIfInBounds_toArray, List.set_cons_zero, List.set_cons_succ]
   refine wpAnyH_take (i := 1) (oi := t8_1) (v := .slice (some ⟨(g + 1), 0, none⟩) 32 32) rfl (by kernel_rfl) (by kernel_rfl) (by kernel_rfl) (fun _ _ _ h => h) (Or.inl ⟨by rfl, fun w' _ => sl50' rfl⟩) hst ?_
   unfold t8_1; simp only [Act.put, List.setIfInBounds_toArray, List.set_cons_zero, List.set_cons_succ]
   refine wpAnyH_ready (rs := [2]) (by kernel_rfl) (by simp) ?_
   refine AllReadyH.cons (o := t8_2) rfl (fun K hK => ?_) ?_
   ·
    unfold t8_2; go_simp; refine (K43.out _ (by omega) (hst.row g KL (by simp) HKl.out) (hst.row (g + 1) U (by simp) HUl.out)).mono ?_; rintro e wzg10 ⟨g10, c10, rfl, hr, hq, hb⟩
    have HRg10 := Lib.hid hr
    have R8e := Lib.hid (R8d.out.below hb)
    clear hr hq
    refine hK.out _ _ (hst.call hb) (fun h1 => ?_)
    clear hK K hb
    refine wpAnyH_take (i := 3) (oi := t8_3) (v := .tuple #[.slice (some ⟨g10, 0, none⟩) 32 c10, .int .i64 0]) rfl (by kernel_rfl) (by kernel_rfl) (by kernel_rfl) (fun _ _ _ h => h) (Or.inl ⟨by rfl, fun w' _ => by rfl⟩) h1 ?_
    unfold t8_3; simp only [Act.put, List.setIfInBounds_toArray, List.set_cons_zero, List.set_cons_succ]
    refine wpAnyH_take (i := 4) (oi := t8_4) (v := .slice (some ⟨g10, 0, none⟩) 32 c10) rfl (by kernel_rfl) (by kernel_rfl) (by kernel_rfl) (fun _ _ _ h => h) (Or.inl ⟨by rfl, fun w' _ => by rfl⟩) h1 ?_
    unfold t8_4; simp only [Act.put, List.setIfInBounds_toArray, List.set_cons_zero, List.set_cons_succ]
    refine wpAnyH_take (i := 5) (oi := t8_5) (v := .int .i64 0) rfl (by kernel_rfl) (by kernel_rfl) (by kernel_rfl) (fun _ _ _ h => h) (Or.inl ⟨by rfl, fun w' _ => by rfl⟩) h1 ?_
    unfold t8_5; simp only [Act.put, List.setIfInBounds_toArray, List.set_cons_zero, List.set_cons_succ]
    refine wpAnyH_take (i := 6) (oi := t8_6) (v := .slice (some ⟨g10, 0, none⟩) 32 c10) rfl (by kernel_rfl) (by kernel_rfl) (by kernel_rfl) (fun _ _ _ h => h) (Or.inl ⟨by rfl, fun w' _ => by rfl⟩) h1 ?_
    unfold t8_6; simp only [Act.put, List.setIfInBounds_toArray, List.set_cons_zero, List.set_cons_succ]
    refine wpAnyH_take (i := 7) (oi := t8_7) (v := .int .i64 0) rfl (by kernel_rfl) (by kernel_rfl) (by kernel_rfl) (fun _ _ _ h => h) (Or.inl ⟨by rfl, fun w' _ => by rfl⟩) h1 ?_
    unfold t8_7; simp only [Act.put, List.setIfInBounds_toArray, List.set_cons_zero, List.set_cons_succ]
    refine wpAnyH_done (by kernel_rfl) ?_ _
    have HE := Lib.hid h1.below
    have v1 := conv_C (c := c8) R8e.out.r
    have v2 := conv_C (c := c10) HRg10.out.r
    go_wp2
    go_ret
    exact ⟨rfl, HE.out⟩
   exact AllReadyH.nil
  exact AllReadyH.nil
end Go.Proofs.Ytfklojheogidpaa
