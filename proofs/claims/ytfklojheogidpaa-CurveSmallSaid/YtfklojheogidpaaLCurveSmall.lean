import Derived.Test.YtfklojheogidpaaCz
set_option linter.unusedVariables false
set_option linter.unusedSimpArgs false
namespace Go.Proofs.Ytfklojheogidpaa
open Go.RowKit Go.Proofs.YtfklojheogidpaaW.PrintWords Go.Proofs.YtfklojheogidpaaW.PrintLast Go.Proofs.YtfklojheogidpaaW.PrintMore
abbrev s31_0 : Oper := { dst := some 63, op := Op.slice 50 (Operand.tmp 3) none none none, type := 22, pos := "law.go:141", after := #[], guard := none }
abbrev s31_1 : Oper := { dst := some 64, op := Op.slice 50 (Operand.tmp 8) none none none, type := 22, pos := "law.go:141", after := #[], guard := none }
abbrev s31_2 : Oper := { dst := some 65, op := Op.call { callee := Callee.value (Operand.func 42), args := #[Operand.tmp 63, Operand.tmp 64], argTypes := #[22, 22] }, type := 54, pos := "law.go:141", after := #[{ on := 0, ground := Ground.data }, { on := 1, ground := Ground.data }], guard := none }
abbrev s31_3 : Oper := { dst := some 62, op := Op.move (Operand.tmp 65), type := 54, pos := "law.go:141", after := #[{ on := 2, ground := Ground.data }], guard := none }
abbrev s31_4 : Oper := { dst := some 66, op := Op.extract (Operand.tmp 62) 0, type := 22, pos := "law.go:141", after := #[{ on := 3, ground := Ground.data }], guard := none }
abbrev s31_5 : Oper := { dst := some 67, op := Op.extract (Operand.tmp 62) 1, type := 53, pos := "law.go:141", after := #[{ on := 3, ground := Ground.data }, { on := 6, ground := Ground.gcOnly Departure.lateStores }], guard := none }
abbrev s31_6 : Oper := { dst := some 12, op := Op.assign (Operand.tmp 66), type := 22, pos := "law.go:141", after := #[{ on := 4, ground := Ground.data }, { on := 2, ground := Ground.chain }, { on := 0, ground := Ground.phase }, { on := 1, ground := Ground.phase }, { on := 2, ground := Ground.phase }, { on := 3, ground := Ground.phase }, { on := 4, ground := Ground.phase }, { on := 5, ground := Ground.textOnly Departure.lateStores }], guard := none }
abbrev s31_7 : Oper := { dst := some 13, op := Op.assign (Operand.tmp 67), type := 53, pos := "law.go:141", after := #[{ on := 5, ground := Ground.data }, { on := 6, ground := Ground.chain }, { on := 0, ground := Ground.phase }, { on := 1, ground := Ground.phase }, { on := 2, ground := Ground.phase }, { on := 3, ground := Ground.phase }, { on := 4, ground := Ground.phase }, { on := 5, ground := Ground.phase }, { on := 6, ground := Ground.phase }], guard := none }
abbrev s32_0 : Oper := { dst := some 69, op := Op.slice 50 (Operand.tmp 3) none none none, type := 22, pos := "law.go:142", after := #[], guard := none }
abbrev s32_1 : Oper := { dst := some 70, op := Op.slice 50 (Operand.tmp 8) none none none, type := 22, pos := "law.go:142", after := #[], guard := none }
abbrev s32_2 : Oper := { dst := some 71, op := Op.call { callee := Callee.value (Operand.func 44), args := #[Operand.tmp 69, Operand.tmp 70], argTypes := #[22, 22] }, type := 54, pos := "law.go:142", after := #[{ on := 0, ground := Ground.data }, { on := 1, ground := Ground.data }], guard := none }
abbrev s32_3 : Oper := { dst := some 68, op := Op.move (Operand.tmp 71), type := 54, pos := "law.go:142", after := #[{ on := 2, ground := Ground.data }], guard := none }
abbrev s32_4 : Oper := { dst := some 72, op := Op.extract (Operand.tmp 68) 0, type := 22, pos := "law.go:142", after := #[{ on := 3, ground := Ground.data }], guard := none }
abbrev s32_5 : Oper := { dst := some 73, op := Op.extract (Operand.tmp 68) 1, type := 53, pos := "law.go:142", after := #[{ on := 3, ground := Ground.data }, { on := 6, ground := Ground.gcOnly Departure.lateStores }], guard := none }
abbrev s32_6 : Oper := { dst := some 14, op := Op.assign (Operand.tmp 72), type := 22, pos := "law.go:142", after := #[{ on := 4, ground := Ground.data }, { on := 2, ground := Ground.chain }, { on := 0, ground := Ground.phase }, { on := 1, ground := Ground.phase }, { on := 2, ground := Ground.phase }, { on := 3, ground := Ground.phase }, { on := 4, ground := Ground.phase }, { on := 5, ground := Ground.textOnly Departure.lateStores }], guard := none }
abbrev s32_7 : Oper := { dst := some 15, op := Op.assign (Operand.tmp 73), type := 53, pos := "law.go:142", after := #[{ on := 5, ground := Ground.data }, { on := 6, ground := Ground.chain }, { on := 0, ground := Ground.phase }, { on := 1, ground := Ground.phase }, { on := 2, ground := Ground.phase }, { on := 3, ground := Ground.phase }, { on := 4, ground := Ground.phase }, { on := 5, ground := Ground.phase }, { on := 6, ground := Ground.phase }], guard := none }
set_option maxHeartbeats 4000000 in
set_option maxRecDepth 100000 in
theorem walk_CurveSmall (w : World) (l0 : List Int) (a1 : Int) (a2 : Bool)
    (hl0 : l0.length = 32) (hw0 : ∀ x ∈ l0, 0 ≤ x ∧ x ≤ 255) (b1 : -9223372036854775808 ≤ a1 ∧ a1 ≤ 9223372036854775807)  :
    Calls Try.prog 19 #[.agg (nums .u8 l0).toArray, .int .i64 a1, .bool a2] w fun e w' => e = .returned (.bool true) ∧ Below w.heap.size w w' := by
  have HL := Lib.hid hl0
  have LB : Hid (Bytes l0) := fun x hx => ⟨(hw0 x hx).1, by have := (hw0 x hx).2; omega⟩
  have K42 : Hid (∀ U, Small U → ∀ W {A B : Option Addr} {c d : Nat}, 32 ≤ c → RC W A 32 l0 → RC W B 32 U → Calls Try.prog 42 #[.slice A 32 c, .slice B 32 d] W fun e w' => ∃ A' c', e = .returned (.tuple #[.slice A' 32 c', .int .i64 0]) ∧ RC w' A' 32 z32 ∧ 32 ≤ c' ∧ Below W.heap.size W w') := fun U hU W A B c d h1 h2 h3 => k42s l0 U hl0 LB.out hU W h1 h2 h3
  have K44 : Hid (∀ U, Small U → ∀ W {A B : Option Addr} {c d : Nat}, 32 ≤ c → RC W A 32 l0 → RC W B 32 U → Calls Try.prog 44 #[.slice A 32 c, .slice B 32 d] W fun e w' => ∃ A' c', e = .returned (.tuple #[.slice A' 0 c', .int .i64 11]) ∧ Below W.heap.size W w') := fun U hU W A B c d h1 h2 h3 => k44s l0 U hl0 LB.out hU W h1 h2 h3
  obtain ⟨B0, hB0⟩ : ∃ x, (nums .u8 l0).toArray = x := ⟨_, rfl⟩
  rw [hB0]
  have HB0 : Hid (B0 = B8 l0) := hB0.symm
  clear hl0 hw0 hB0
  go_enter Try.func19, Try.ntmps19
  go_wp2_with fail
  refine (awake_any _).mono ?_
  rintro e w1 ⟨rfl, b⟩
  have hS : Hid (AB w [(w.heap.size, l0)] w1) := ⟨Below.trans ((Below.refl _ _).alloc (Nat.le_refl _) _) (b.mono (by simp)), fun y hy => by
    simp only [List.mem_cons, List.not_mem_nil, or_false] at hy
    subst hy
    exact ⟨Nat.le_refl _, (b.block _ (by simp)).trans (by rw [← HB0.out]; exact heap_alloc_new w _)⟩⟩
  obtain ⟨g, hg⟩ : ∃ y, w.heap.size = y := ⟨_, rfl⟩
  have hS2 : Hid (AB w [(g, l0)] w1) := by rw [← hg]; exact hS.out
  have HGS : Hid (w.heap.size = g) := hg
  rw [hg]
  clear b hS HB0 hg
  go_upto_region 5 with fail
  have hnew : (w1.alloc (.cells #[.int .u8 0, .int .u8 0, .int .u8 0, .int .u8 0, .int .u8 0, .int .u8 0, .int .u8 0, .int .u8 0, .int .u8 0, .int .u8 0, .int .u8 0, .int .u8 0, .int .u8 0, .int .u8 0, .int .u8 0, .int .u8 0, .int .u8 0, .int .u8 0, .int .u8 0, .int .u8 0, .int .u8 0, .int .u8 0, .int .u8 0, .int .u8 0, .int .u8 0, .int .u8 0, .int .u8 0, .int .u8 0, .int .u8 0, .int .u8 0, .int .u8 0, .int .u8 0] 50)).heap[w1.heap.size]? = some (.cells (B8 z32) 50 (0, 0)) := heap_alloc_new w1 _
  have hS3 := (hS2.out.call ((Below.refl w1.heap.size w1).alloc (Nat.le_refl _) (.cells #[.int .u8 0, .int .u8 0, .int .u8 0, .int .u8 0, .int .u8 0, .int .u8 0, .int .u8 0, .int .u8 0, .int .u8 0, .int .u8 0, .int .u8 0, .int .u8 0, .int .u8 0, .int .u8 0, .int .u8 0, .int .u8 0, .int .u8 0, .int .u8 0, .int .u8 0, .int .u8 0, .int .u8 0, .int .u8 0, .int .u8 0, .int .u8 0, .int .u8 0, .int .u8 0, .int .u8 0, .int .u8 0, .int .u8 0, .int .u8 0, .int .u8 0, .int .u8 0] 50))).add hS2.out.below.size hnew
  have hne : g ≠ w1.heap.size := fun e => by have := blk_lt (hS2.out.get g l0 (by simp)); omega
  obtain ⟨w2, hw2⟩ : ∃ y, w1.alloc (.cells #[.int .u8 0, .int .u8 0, .int .u8 0, .int .u8 0, .int .u8 0, .int .u8 0, .int .u8 0, .int .u8 0, .int .u8 0, .int .u8 0, .int .u8 0, .int .u8 0, .int .u8 0, .int .u8 0, .int .u8 0, .int .u8 0, .int .u8 0, .int .u8 0, .int .u8 0, .int .u8 0, .int .u8 0, .int .u8 0, .int .u8 0, .int .u8 0, .int .u8 0, .int .u8 0, .int .u8 0, .int .u8 0, .int .u8 0, .int .u8 0, .int .u8 0, .int .u8 0] 50) = y := ⟨_, rfl⟩
  rw [hw2] at hS3 ⊢
  obtain ⟨g8, hg8⟩ : ∃ y, w1.heap.size = y := ⟨_, rfl⟩
  rw [hg8] at hS3 hne ⊢
  have HS3 := Lib.hid hS3
  have HNE : Hid (∀ y ∈ [(g, l0)], y.1 ≠ g8) := fun y hy => by
    simp only [List.mem_cons, List.not_mem_nil, or_false] at hy
    subst hy
    exact hne
  have HG8 : Hid (w.heap.size ≤ g8) := by rw [← hg8]; exact hS2.out.below.size
  clear hnew hS3 hne hw2 hg8 hS2
  go_upto_block 0 with fail
  obtain ⟨m, hm⟩ : ∃ m, (bits .and .i64 a1 255).tmod 5 = m := ⟨_, rfl⟩
  rw [hm]
  clear hm
  go_cut [9] (fun s9 wc => ∃ U, Small U ∧ AB w [(g8, U), (g, l0)] wc)
  case first =>
    by_cases h0 : m = 0
    · subst h0
      go_wp2_with fail
      go_meet
      exact ⟨z32, small_0, HS3.out⟩
    by_cases h1 : m = 1
    · subst h1
      have q0 := b8_cell (HS3.out.get g8 z32 (by simp)) 0 (by decide)
      have f0 := blk_frozen (HS3.out.get g8 z32 (by simp)) 0
      go_wp2_with fail
      go_meet
      exact ⟨one32, small_1, HS3.out.put HNE.out 0 1⟩
    by_cases h2 : m = 2
    · subst h2
      go_wp2_with fail
      go_loopw [9] (fun s wr => ∃ i : Nat, i ≤ 32 ∧ s = .int .i64 i ∧ AB w [(g8, fl i), (g, l0)] wr) (fun s _ => 32 - (intOf s).toNat)
      case atStart => exact ⟨0, by omega, rfl, by rw [fl_0]; exact HS3.out⟩
      case round =>
        obtain ⟨i, hi, rfl, hs⟩ := hrel
        have HSr := Lib.hid hs
        clear hs
        by_cases hlt : i < 32
        · have q0 := b8_cell (HSr.out.get g8 (fl i) (by simp)) i (by rw [fl_length i hi]; omega)
          have f0 := blk_frozen (HSr.out.get g8 (fl i) (by simp)) i
          go_wp2_with fail
          go_roundw
          case rel => exact ⟨i + 1, by omega, by go_num, by rw [← fl_set i hlt]; exact HSr.out.put HNE.out i 255⟩
          case measure => simp [intOf] <;> omega
        · obtain rfl : i = 32 := by omega
          have q0 := b8_cell (HSr.out.get g8 (fl 32) (by simp)) 0 (by decide)
          have f0 := blk_frozen (HSr.out.get g8 (fl 32) (by simp)) 0
          have HT := Lib.hid (HSr.out.put HNE.out 0 236)
          have q1 := b8_cell (HT.out.get g8 ((fl 32).set 0 236) (by simp)) 31 (by decide)
          have f1 := blk_frozen (HT.out.get g8 ((fl 32).set 0 236) (by simp)) 31
          go_wp2_with fail
          go_meet
          exact ⟨big 236, small_2, HT.out.put HNE.out 31 127⟩
    by_cases h3 : m = 3
    · subst h3
      go_wp2_with fail
      go_loopw [10] (fun s wr => ∃ i : Nat, i ≤ 32 ∧ s = .int .i64 i ∧ AB w [(g8, fl i), (g, l0)] wr) (fun s _ => 32 - (intOf s).toNat)
      case atStart => exact ⟨0, by omega, rfl, by rw [fl_0]; exact HS3.out⟩
      case round =>
        obtain ⟨i, hi, rfl, hs⟩ := hrel
        have HSr := Lib.hid hs
        clear hs
        by_cases hlt : i < 32
        · have q0 := b8_cell (HSr.out.get g8 (fl i) (by simp)) i (by rw [fl_length i hi]; omega)
          have f0 := blk_frozen (HSr.out.get g8 (fl i) (by simp)) i
          go_wp2_with fail
          go_roundw
          case rel => exact ⟨i + 1, by omega, by go_num, by rw [← fl_set i hlt]; exact HSr.out.put HNE.out i 255⟩
          case measure => simp [intOf] <;> omega
        · obtain rfl : i = 32 := by omega
          have q0 := b8_cell (HSr.out.get g8 (fl 32) (by simp)) 0 (by decide)
          have f0 := blk_frozen (HSr.out.get g8 (fl 32) (by simp)) 0
          have HT := Lib.hid (HSr.out.put HNE.out 0 237)
          have q1 := b8_cell (HT.out.get g8 ((fl 32).set 0 237) (by simp)) 31 (by decide)
          have f1 := blk_frozen (HT.out.get g8 ((fl 32).set 0 237) (by simp)) 31
          go_wp2_with fail
          go_meet
          exact ⟨big 237, small_3, HT.out.put HNE.out 31 127⟩
    · skip
      go_wp2_with fail
      go_loopw [11] (fun s wr => ∃ i : Nat, i ≤ 32 ∧ s = .int .i64 i ∧ AB w [(g8, fl i), (g, l0)] wr) (fun s _ => 32 - (intOf s).toNat)
      case atStart => exact ⟨0, by omega, rfl, by rw [fl_0]; exact HS3.out⟩
      case round =>
        obtain ⟨i, hi, rfl, hs⟩ := hrel
        have HSr := Lib.hid hs
        clear hs
        by_cases hlt : i < 32
        · have q0 := b8_cell (HSr.out.get g8 (fl i) (by simp)) i (by rw [fl_length i hi]; omega)
          have f0 := blk_frozen (HSr.out.get g8 (fl i) (by simp)) i
          go_wp2_with fail
          go_roundw
          case rel => exact ⟨i + 1, by omega, by go_num, by rw [← fl_set i hlt]; exact HSr.out.put HNE.out i 255⟩
          case measure => simp [intOf] <;> omega
        · obtain rfl : i = 32 := by omega
          have q0 := b8_cell (HSr.out.get g8 (fl 32) (by simp)) 0 (by decide)
          have f0 := blk_frozen (HSr.out.get g8 (fl 32) (by simp)) 0
          have HT := Lib.hid (HSr.out.put HNE.out 0 238)
          have q1 := b8_cell (HT.out.get g8 ((fl 32).set 0 238) (by simp)) 31 (by decide)
          have f1 := blk_frozen (HT.out.get g8 ((fl 32).set 0 238) (by simp)) 31
          go_wp2_with fail
          go_meet
          exact ⟨big 238, small_4, HT.out.put HNE.out 31 127⟩
  case rest =>
    obtain ⟨U, hU, hS⟩ := hcut
    have SU := Lib.hid hU
    have HS := Lib.hid hS
    clear HS3 hU hS
    cases a2 with
    | false =>
      go_upto_region 31 with fail
      refine wp_region_held_drew (S := AB w [(g8, U), (g, l0)]) (by kernel_rfl) HS.out.drew (fun hst => ?_)
      try simp only [Act.put]
      refine wpAnyH_take (i := 0) (oi := s31_0) (v := .slice (some ⟨g, 0, none⟩) 32 32) rfl (by kernel_rfl) (by kernel_rfl) (by kernel_rfl) (fun _ _ _ h => h) (Or.inl ⟨by rfl, fun w' _ => sl50' rfl⟩) hst ?_
      unfold s31_0; simp only [Act.put, List.setIfInBounds_toArray, List.set_cons_zero, List.set_cons_succ]
      refine wpAnyH_take (i := 1) (oi := s31_1) (v := .slice (some ⟨g8, 0, none⟩) 32 32) rfl (by kernel_rfl) (by kernel_rfl) (by kernel_rfl) (fun _ _ _ h => h) (Or.inl ⟨by rfl, fun w' _ => sl50' rfl⟩) hst ?_
      unfold s31_1; simp only [Act.put, List.setIfInBounds_toArray, List.set_cons_zero, List.set_cons_succ]
      refine wpAnyH_ready (rs := [2]) (by kernel_rfl) (by simp) ?_
      refine AllReadyH.cons (o := s31_2) rfl (fun K hK => ?_) ?_
      ·
       unfold s31_2; go_simp; refine (K42.out _ SU.out _ (by omega) (hst.row g l0 (by simp) HL.out) (hst.row g8 U (by simp) SU.out.1)).mono ?_; rintro e wA12 ⟨A12, c12, rfl, hr, _, hb⟩
       have R12 := Lib.hid hr
       clear hr
       refine hK.out _ _ (hst.call hb) (fun h1 => ?_)
       clear hK K hb
       refine wpAnyH_take (i := 3) (oi := s31_3) (v := .tuple #[.slice A12 32 c12, .int .i64 0]) rfl (by kernel_rfl) (by kernel_rfl) (by kernel_rfl) (fun _ _ _ h => h) (Or.inl ⟨by rfl, fun w' _ => by rfl⟩) h1 ?_
       unfold s31_3; simp only [Act.put, List.setIfInBounds_toArray, List.set_cons_zero, List.set_cons_succ]
       refine wpAnyH_take (i := 4) (oi := s31_4) (v := .slice A12 32 c12) rfl (by kernel_rfl) (by kernel_rfl) (by kernel_rfl) (fun _ _ _ h => h) (Or.inl ⟨by rfl, fun w' _ => by rfl⟩) h1 ?_
       unfold s31_4; simp only [Act.put, List.setIfInBounds_toArray, List.set_cons_zero, List.set_cons_succ]
       refine wpAnyH_take (i := 5) (oi := s31_5) (v := .int .i64 0) rfl (by kernel_rfl) (by kernel_rfl) (by kernel_rfl) (fun _ _ _ h => h) (Or.inl ⟨by rfl, fun w' _ => by rfl⟩) h1 ?_
       unfold s31_5; simp only [Act.put, List.setIfInBounds_toArray, List.set_cons_zero, List.set_cons_succ]
       refine wpAnyH_take (i := 6) (oi := s31_6) (v := .slice A12 32 c12) rfl (by kernel_rfl) (by kernel_rfl) (by kernel_rfl) (fun _ _ _ h => h) (Or.inl ⟨by rfl, fun w' _ => by rfl⟩) h1 ?_
       unfold s31_6; simp only [Act.put, List.setIfInBounds_toArray, List.set_cons_zero, List.set_cons_succ]
       refine wpAnyH_take (i := 7) (oi := s31_7) (v := .int .i64 0) rfl (by kernel_rfl) (by kernel_rfl) (by kernel_rfl) (fun _ _ _ h => h) (Or.inl ⟨by rfl, fun w' _ => by rfl⟩) h1 ?_
       unfold s31_7; simp only [Act.put, List.setIfInBounds_toArray, List.set_cons_zero, List.set_cons_succ]
       refine wpAnyH_done (by kernel_rfl) ?_ _
       have HS4 := Lib.hid h1
       clear h1 hst HS
       go_upto_region 32 with fail
       have hst2 := HS4.out.drew
       have r12 := R12.out.below (Below.refl _ _).drew
       obtain ⟨wd2, hwd2⟩ : ∃ y, wA12.drew = y := ⟨_, rfl⟩
       rw [hwd2] at hst2 r12
       have R12d := Lib.hid r12
       refine wp_region_held_drew (S := AB w [(g8, U), (g, l0)]) (by kernel_rfl) (by rw [hwd2]; exact hst2) (fun _ => ?_)
       rw [hwd2]
       clear hwd2 HS4 r12 R12
       try simp only [Act.put]
       refine wpAnyH_take (i := 0) (oi := s32_0) (v := .slice (some ⟨g, 0, none⟩) 32 32) rfl (by kernel_rfl) (by kernel_rfl) (by kernel_rfl) (fun _ _ _ h => h) (Or.inl ⟨by rfl, fun w' _ => sl50' rfl⟩) hst2 ?_
       unfold s32_0; simp only [Act.put, List.setIfInBounds_toArray, List.set_cons_zero, List.set_cons_succ]
       refine wpAnyH_take (i := 1) (oi := s32_1) (v := .slice (some ⟨g8, 0, none⟩) 32 32) rfl (by kernel_rfl) (by kernel_rfl) (by kernel_rfl) (fun _ _ _ h => h) (Or.inl ⟨by rfl, fun w' _ => sl50' rfl⟩) hst2 ?_
       unfold s32_1; simp only [Act.put, List.setIfInBounds_toArray, List.set_cons_zero, List.set_cons_succ]
       refine wpAnyH_ready (rs := [2]) (by kernel_rfl) (by simp) ?_
       refine AllReadyH.cons (o := s32_2) rfl (fun K hK => ?_) ?_
       ·
        unfold s32_2; go_simp; refine (K44.out _ SU.out _ (by omega) (hst2.row g l0 (by simp) HL.out) (hst2.row g8 U (by simp) SU.out.1)).mono ?_; rintro e wA15 ⟨A15, c15, rfl, hb⟩
        have R13 := Lib.hid (R12d.out.below hb)
        refine hK.out _ _ (hst2.call hb) (fun h1 => ?_)
        clear hK K hb
        refine wpAnyH_take (i := 3) (oi := s32_3) (v := .tuple #[.slice A15 0 c15, .int .i64 11]) rfl (by kernel_rfl) (by kernel_rfl) (by kernel_rfl) (fun _ _ _ h => h) (Or.inl ⟨by rfl, fun w' _ => by rfl⟩) h1 ?_
        unfold s32_3; simp only [Act.put, List.setIfInBounds_toArray, List.set_cons_zero, List.set_cons_succ]
        refine wpAnyH_take (i := 4) (oi := s32_4) (v := .slice A15 0 c15) rfl (by kernel_rfl) (by kernel_rfl) (by kernel_rfl) (fun _ _ _ h => h) (Or.inl ⟨by rfl, fun w' _ => by rfl⟩) h1 ?_
        unfold s32_4; simp only [Act.put, List.setIfInBounds_toArray, List.set_cons_zero, List.set_cons_succ]
        refine wpAnyH_take (i := 5) (oi := s32_5) (v := .int .i64 11) rfl (by kernel_rfl) (by kernel_rfl) (by kernel_rfl) (fun _ _ _ h => h) (Or.inl ⟨by rfl, fun w' _ => by rfl⟩) h1 ?_
        unfold s32_5; simp only [Act.put, List.setIfInBounds_toArray, List.set_cons_zero, List.set_cons_succ]
        refine wpAnyH_take (i := 6) (oi := s32_6) (v := .slice A15 0 c15) rfl (by kernel_rfl) (by kernel_rfl) (by kernel_rfl) (fun _ _ _ h => h) (Or.inl ⟨by rfl, fun w' _ => by rfl⟩) h1 ?_
        unfold s32_6; simp only [Act.put, List.setIfInBounds_toArray, List.set_cons_zero, List.set_cons_succ]
        refine wpAnyH_take (i := 7) (oi := s32_7) (v := .int .i64 11) rfl (by kernel_rfl) (by kernel_rfl) (by kernel_rfl) (fun _ _ _ h => h) (Or.inl ⟨by rfl, fun w' _ => by rfl⟩) h1 ?_
        unfold s32_7; simp only [Act.put, List.setIfInBounds_toArray, List.set_cons_zero, List.set_cons_succ]
        refine wpAnyH_done (by kernel_rfl) ?_ _
        have HB2 := Lib.hid h1.below
        obtain ⟨ax, e1, hall⟩ := R13.out.cells (by omega)
        subst e1
        have HA := Lib.hid hall
        clear hall R13 h1 hst2
        go_wp2_with fail
        go_loopw [16, 17] (fun s16 s17 wr => ∃ i : Nat, i ≤ 32 ∧ s17 = .int .i64 i ∧ s16 = .int .i64 0 ∧ wr = wA15) (fun _ s17 _ => 32 - (intOf s17).toNat)
        case atStart => exact ⟨0, by omega, rfl, rfl, rfl⟩
        case round =>
          obtain ⟨i, hi, rfl, rfl, rfl⟩ := hrel
          by_cases hlt : i < 32
          · have hc := HA.out i hlt
            rw [z32_get] at hc
            go_wp2_with fail
            go_roundw
            case rel => exact ⟨i + 1, by omega, by go_num, by go_num, trivial⟩
            case measure => simp [intOf] <;> omega
          · obtain rfl : i = 32 := by omega
            go_wp2
            go_ret
            exact ⟨rfl, HB2.out⟩
       exact AllReadyH.nil
      exact AllReadyH.nil
    | true =>
      have q0 := b8_cell (HS.out.get g8 U (by simp)) 31 (by have := SU.out.1; omega)
      have f0 := blk_frozen (HS.out.get g8 U (by simp)) 31
      obtain ⟨v, hv⟩ : ∃ v, U.getD 31 0 = v := ⟨_, rfl⟩
      rw [hv] at q0
      have su := SU.out.top
      rw [hv] at su
      have hs := HS.out.put HNE.out 31 (bits .xor .u8 v 128)
      obtain ⟨U2, hU2⟩ : ∃ U2, U.set 31 (bits .xor .u8 v 128) = U2 := ⟨_, rfl⟩
      rw [hU2] at su hs
      clear SU HS hv hU2
      have SU := Lib.hid su
      have HS := Lib.hid hs
      clear su hs
      go_upto_region 31 with fail
      refine wp_region_held_drew (S := AB w [(g8, U2), (g, l0)]) (by kernel_rfl) HS.out.drew (fun hst => ?_)
      try simp only [Act.put]
      refine wpAnyH_take (i := 0) (oi := s31_0) (v := .slice (some ⟨g, 0, none⟩) 32 32) rfl (by kernel_rfl) (by kernel_rfl) (by kernel_rfl) (fun _ _ _ h => h) (Or.inl ⟨by rfl, fun w' _ => sl50' rfl⟩) hst ?_
      unfold s31_0; simp only [Act.put, List.setIfInBounds_toArray, List.set_cons_zero, List.set_cons_succ]
      refine wpAnyH_take (i := 1) (oi := s31_1) (v := .slice (some ⟨g8, 0, none⟩) 32 32) rfl (by kernel_rfl) (by kernel_rfl) (by kernel_rfl) (fun _ _ _ h => h) (Or.inl ⟨by rfl, fun w' _ => sl50' rfl⟩) hst ?_
      unfold s31_1; simp only [Act.put, List.setIfInBounds_toArray, List.set_cons_zero, List.set_cons_succ]
      refine wpAnyH_ready (rs := [2]) (by kernel_rfl) (by simp) ?_
      refine AllReadyH.cons (o := s31_2) rfl (fun K hK => ?_) ?_
      ·
       unfold s31_2; go_simp; refine (K42.out _ SU.out _ (by omega) (hst.row g l0 (by simp) HL.out) (hst.row g8 U2 (by simp) SU.out.1)).mono ?_; rintro e wA12 ⟨A12, c12, rfl, hr, _, hb⟩
       have R12 := Lib.hid hr
       clear hr
       refine hK.out _ _ (hst.call hb) (fun h1 => ?_)
       clear hK K hb
       refine wpAnyH_take (i := 3) (oi := s31_3) (v := .tuple #[.slice A12 32 c12, .int .i64 0]) rfl (by kernel_rfl) (by kernel_rfl) (by kernel_rfl) (fun _ _ _ h => h) (Or.inl ⟨by rfl, fun w' _ => by rfl⟩) h1 ?_
       unfold s31_3; simp only [Act.put, List.setIfInBounds_toArray, List.set_cons_zero, List.set_cons_succ]
       refine wpAnyH_take (i := 4) (oi := s31_4) (v := .slice A12 32 c12) rfl (by kernel_rfl) (by kernel_rfl) (by kernel_rfl) (fun _ _ _ h => h) (Or.inl ⟨by rfl, fun w' _ => by rfl⟩) h1 ?_
       unfold s31_4; simp only [Act.put, List.setIfInBounds_toArray, List.set_cons_zero, List.set_cons_succ]
       refine wpAnyH_take (i := 5) (oi := s31_5) (v := .int .i64 0) rfl (by kernel_rfl) (by kernel_rfl) (by kernel_rfl) (fun _ _ _ h => h) (Or.inl ⟨by rfl, fun w' _ => by rfl⟩) h1 ?_
       unfold s31_5; simp only [Act.put, List.setIfInBounds_toArray, List.set_cons_zero, List.set_cons_succ]
       refine wpAnyH_take (i := 6) (oi := s31_6) (v := .slice A12 32 c12) rfl (by kernel_rfl) (by kernel_rfl) (by kernel_rfl) (fun _ _ _ h => h) (Or.inl ⟨by rfl, fun w' _ => by rfl⟩) h1 ?_
       unfold s31_6; simp only [Act.put, List.setIfInBounds_toArray, List.set_cons_zero, List.set_cons_succ]
       refine wpAnyH_take (i := 7) (oi := s31_7) (v := .int .i64 0) rfl (by kernel_rfl) (by kernel_rfl) (by kernel_rfl) (fun _ _ _ h => h) (Or.inl ⟨by rfl, fun w' _ => by rfl⟩) h1 ?_
       unfold s31_7; simp only [Act.put, List.setIfInBounds_toArray, List.set_cons_zero, List.set_cons_succ]
       refine wpAnyH_done (by kernel_rfl) ?_ _
       have HS4 := Lib.hid h1
       clear h1 hst HS
       go_upto_region 32 with fail
       have hst2 := HS4.out.drew
       have r12 := R12.out.below (Below.refl _ _).drew
       obtain ⟨wd2, hwd2⟩ : ∃ y, wA12.drew = y := ⟨_, rfl⟩
       rw [hwd2] at hst2 r12
       have R12d := Lib.hid r12
       refine wp_region_held_drew (S := AB w [(g8, U2), (g, l0)]) (by kernel_rfl) (by rw [hwd2]; exact hst2) (fun _ => ?_)
       rw [hwd2]
       clear hwd2 HS4 r12 R12
       try simp only [Act.put]
       refine wpAnyH_take (i := 0) (oi := s32_0) (v := .slice (some ⟨g, 0, none⟩) 32 32) rfl (by kernel_rfl) (by kernel_rfl) (by kernel_rfl) (fun _ _ _ h => h) (Or.inl ⟨by rfl, fun w' _ => sl50' rfl⟩) hst2 ?_
       unfold s32_0; simp only [Act.put, List.setIfInBounds_toArray, List.set_cons_zero, List.set_cons_succ]
       refine wpAnyH_take (i := 1) (oi := s32_1) (v := .slice (some ⟨g8, 0, none⟩) 32 32) rfl (by kernel_rfl) (by kernel_rfl) (by kernel_rfl) (fun _ _ _ h => h) (Or.inl ⟨by rfl, fun w' _ => sl50' rfl⟩) hst2 ?_
       unfold s32_1; simp only [Act.put, List.setIfInBounds_toArray, List.set_cons_zero, List.set_cons_succ]
       refine wpAnyH_ready (rs := [2]) (by kernel_rfl) (by simp) ?_
       refine AllReadyH.cons (o := s32_2) rfl (fun K hK => ?_) ?_
       ·
        unfold s32_2; go_simp; refine (K44.out _ SU.out _ (by omega) (hst2.row g l0 (by simp) HL.out) (hst2.row g8 U2 (by simp) SU.out.1)).mono ?_; rintro e wA15 ⟨A15, c15, rfl, hb⟩
        have R13 := Lib.hid (R12d.out.below hb)
        refine hK.out _ _ (hst2.call hb) (fun h1 => ?_)
        clear hK K hb
        refine wpAnyH_take (i := 3) (oi := s32_3) (v := .tuple #[.slice A15 0 c15, .int .i64 11]) rfl (by kernel_rfl) (by kernel_rfl) (by kernel_rfl) (fun _ _ _ h => h) (Or.inl ⟨by rfl, fun w' _ => by rfl⟩) h1 ?_
        unfold s32_3; simp only [Act.put, List.setIfInBounds_toArray, List.set_cons_zero, List.set_cons_succ]
        refine wpAnyH_take (i := 4) (oi := s32_4) (v := .slice A15 0 c15) rfl (by kernel_rfl) (by kernel_rfl) (by kernel_rfl) (fun _ _ _ h => h) (Or.inl ⟨by rfl, fun w' _ => by rfl⟩) h1 ?_
        unfold s32_4; simp only [Act.put, List.setIfInBounds_toArray, List.set_cons_zero, List.set_cons_succ]
        refine wpAnyH_take (i := 5) (oi := s32_5) (v := .int .i64 11) rfl (by kernel_rfl) (by kernel_rfl) (by kernel_rfl) (fun _ _ _ h => h) (Or.inl ⟨by rfl, fun w' _ => by rfl⟩) h1 ?_
        unfold s32_5; simp only [Act.put, List.setIfInBounds_toArray, List.set_cons_zero, List.set_cons_succ]
        refine wpAnyH_take (i := 6) (oi := s32_6) (v := .slice A15 0 c15) rfl (by kernel_rfl) (by kernel_rfl) (by kernel_rfl) (fun _ _ _ h => h) (Or.inl ⟨by rfl, fun w' _ => by rfl⟩) h1 ?_
        unfold s32_6; simp only [Act.put, List.setIfInBounds_toArray, List.set_cons_zero, List.set_cons_succ]
        refine wpAnyH_take (i := 7) (oi := s32_7) (v := .int .i64 11) rfl (by kernel_rfl) (by kernel_rfl) (by kernel_rfl) (fun _ _ _ h => h) (Or.inl ⟨by rfl, fun w' _ => by rfl⟩) h1 ?_
        unfold s32_7; simp only [Act.put, List.setIfInBounds_toArray, List.set_cons_zero, List.set_cons_succ]
        refine wpAnyH_done (by kernel_rfl) ?_ _
        have HB2 := Lib.hid h1.below
        obtain ⟨ax, e1, hall⟩ := R13.out.cells (by omega)
        subst e1
        have HA := Lib.hid hall
        clear hall R13 h1 hst2
        go_wp2_with fail
        go_loopw [16, 17] (fun s16 s17 wr => ∃ i : Nat, i ≤ 32 ∧ s17 = .int .i64 i ∧ s16 = .int .i64 0 ∧ wr = wA15) (fun _ s17 _ => 32 - (intOf s17).toNat)
        case atStart => exact ⟨0, by omega, rfl, rfl, rfl⟩
        case round =>
          obtain ⟨i, hi, rfl, rfl, rfl⟩ := hrel
          by_cases hlt : i < 32
          · have hc := HA.out i hlt
            rw [z32_get] at hc
            go_wp2_with fail
            go_roundw
            case rel => exact ⟨i + 1, by omega, by go_num, by go_num, trivial⟩
            case measure => simp [intOf] <;> omega
          · obtain rfl : i = 32 := by omega
            go_wp2
            go_ret
            exact ⟨rfl, HB2.out⟩
       exact AllReadyH.nil
      exact AllReadyH.nil
end Go.Proofs.Ytfklojheogidpaa
