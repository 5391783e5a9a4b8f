import Derived.Test.YtfklojheogidpaaMul
set_option linter.unusedVariables false
namespace Go.Proofs.Ytfklojheogidpaa
open Go.RowKit Go.Proofs.YtfklojheogidpaaW.PrintWords

theorem mask_on (x y : Int) (hx : Word x) (hy : Word y) :
    bits .xor .u64 x (bits .and .u64 (bits .xor .u64 x y) 18446744073709551615) = y ∧ bits .xor .u64 y (bits .and .u64 (bits .xor .u64 x y) 18446744073709551615) = x := by
  obtain ⟨X, rfl⟩ := Int.eq_ofNat_of_zero_le hx.1
  obtain ⟨Y, rfl⟩ := Int.eq_ofNat_of_zero_le hy.1
  have hX : X < 18446744073709551616 := by have := hx.2; omega
  have hY : Y < 18446744073709551616 := by have := hy.2; omega
  have hxy : X ^^^ Y < 2 ^ 64 := Nat.xor_lt_two_pow (by omega) (by omega)
  have e : bits .and .u64 ((X ^^^ Y : Nat) : Int) 18446744073709551615 = ((X ^^^ Y : Nat) : Int) := by
    rw [show (18446744073709551615 : Int) = ((18446744073709551615 : Nat) : Int) from rfl, bits_and_u64_nat _ _ (by omega) (by omega)]
    have := Nat.and_two_pow_sub_one_eq_mod (X ^^^ Y) 64
    rw [show 2 ^ 64 - 1 = 18446744073709551615 from rfl] at this
    rw [this, Nat.mod_eq_of_lt hxy]
  rw [bits_xor_u64_nat X Y hX hY, e, bits_xor_u64_nat X _ hX (by omega), bits_xor_u64_nat Y _ hY (by omega), ← Nat.xor_assoc, Nat.xor_self, Nat.zero_xor, Nat.xor_comm X Y, ← Nat.xor_assoc, Nat.xor_self, Nat.zero_xor]
  exact ⟨rfl, rfl⟩
theorem mask_off (x y : Int) (hx : Word x) (hy : Word y) :
    bits .xor .u64 x (bits .and .u64 (bits .xor .u64 x y) 0) = x ∧ bits .xor .u64 y (bits .and .u64 (bits .xor .u64 x y) 0) = y := by
  obtain ⟨X, rfl⟩ := Int.eq_ofNat_of_zero_le hx.1
  obtain ⟨Y, rfl⟩ := Int.eq_ofNat_of_zero_le hy.1
  have hX : X < 18446744073709551616 := by have := hx.2; omega
  have hY : Y < 18446744073709551616 := by have := hy.2; omega
  have hxy : X ^^^ Y < 2 ^ 64 := Nat.xor_lt_two_pow (by omega) (by omega)
  have e : bits .and .u64 ((X ^^^ Y : Nat) : Int) 0 = ((0 : Nat) : Int) := by
    rw [show (0 : Int) = ((0 : Nat) : Int) from rfl, bits_and_u64_nat _ _ (by omega) (by omega), Nat.and_zero]
  rw [bits_xor_u64_nat X Y hX hY, e, bits_xor_u64_nat X 0 hX (by omega), bits_xor_u64_nat Y 0 hY (by omega), Nat.xor_zero, Nat.xor_zero]
  exact ⟨rfl, rfl⟩
theorem Four.ext {l m : List Int} (hl : l.length = 4) (hm : m.length = 4) (h : ∀ t, t < 4 → l.getD t 0 = m.getD t 0) : l = m := by
  apply List.ext_getElem (by omega)
  intro i h1 h2
  have := h i (by omega)
  simpa [List.getD_eq_getElem?_getD, List.getElem?_eq_getElem h1, List.getElem?_eq_getElem h2] using this
theorem getD_set_self (l : List Int) (i : Nat) (x : Int) (h : i < l.length) : (l.set i x).getD i 0 = x := by
  simp [List.getD_eq_getElem?_getD, h]
theorem heap_alloc4 (w : World) (A B C D : Obj) : ((((w.alloc A).alloc B).alloc C).alloc D).heap[w.heap.size]? = some A ∧ ((((w.alloc A).alloc B).alloc C).alloc D).heap[w.heap.size + 1]? = some B ∧ ((((w.alloc A).alloc B).alloc C).alloc D).heap[w.heap.size + 1 + 1]? = some C ∧ ((((w.alloc A).alloc B).alloc C).alloc D).heap[w.heap.size + 1 + 1 + 1]? = some D := by
  refine ⟨?_, ?_, ?_, ?_⟩
  · rw [Below.heap_alloc _ _ _ (by simp <;> omega)]; exact heap_alloc3_0 w _ _ _
  · rw [Below.heap_alloc _ _ _ (by simp <;> omega)]; exact heap_alloc3_1 w _ _ _
  · rw [Below.heap_alloc _ _ _ (by simp <;> omega)]; exact heap_alloc3_2 w _ _ _
  · have h := heap_alloc_new (((w.alloc A).alloc B).alloc C) D
    have e : (((w.alloc A).alloc B).alloc C).heap.size = w.heap.size + 1 + 1 + 1 := by simp
    rwa [e] at h

theorem ret27_2 {fn : Func} {R : Ending → World → Prop} {a : Act} {w : World} {p q : Tmp} (hf : fn.results = #[.cell p 27, .cell q 27]) (g k : Nat) (l m : List Int) (hp : a.tmps.getD p undef = .pointer (some ⟨g, 0, none⟩)) (hq : a.tmps.getD q undef = .pointer (some ⟨k, 0, none⟩)) (hg : w.heap[g]? = some (.cells (Ls l) 27 (0, 0))) (hk : w.heap[k]? = some (.cells (Ls m) 27 (0, 0))) (hl : l.length = 4) (hm : m.length = 4)
    (hd : a.defers = []) (hR : R (.returned (.tuple #[.agg (Ls l), .agg (Ls m)])) w) : bodyPost Try.prog fn R .ret a w := by
  have hp' : a.tmps[p]?.getD undef = .pointer (some ⟨g, 0, none⟩) := by simpa using hp
  have hq' : a.tmps[q]?.getD undef = .pointer (some ⟨k, 0, none⟩) := by simpa using hq
  refine bodyPost_ret (v := .tuple #[.agg (Ls l), .agg (Ls m)]) ?_ hd hR
  simp [results, hf, hp', hq', asAddr, run_loadVar_row w g 27 27 (Ls l) (0, 0) _ hg Try.underlying27 rfl (by rw [Ls_size, hl]; exact info27), run_loadVar_row w k 27 27 (Ls m) (0, 0) _ hk Try.underlying27 rfl (by rw [Ls_size, hm]; exact info27)]

set_option maxHeartbeats 1000000 in
theorem swap_on (v u : Int) (w : World) :
    Calls Try.prog 37 #[.int .i64 1, .agg (E v), .agg (E u)] w fun e w' => e = .returned (.tuple #[.agg (E u), .agg (E v)]) ∧ Below w.heap.size w w' := by
  have hmk : IntKind.u64.wrap (-1) = 18446744073709551615 := by decide
  go_enter Try.func37, Try.ntmps37
  go_wp2
  go_loopw [15] (fun s15 wr => ∃ (i : Nat) (la lb : List Int), i ≤ 4 ∧ s15 = .int .i64 i ∧ Four la ∧ Four lb ∧ (∀ t, la.getD t 0 = if t < i then (lim u).getD t 0 else (lim v).getD t 0) ∧ (∀ t, lb.getD t 0 = if t < i then (lim v).getD t 0 else (lim u).getD t 0) ∧ wr.heap[w.heap.size]? = some (.cells (Ls la) 27 (0, 0)) ∧ wr.heap[w.heap.size + 1]? = some (.cells (Ls lb) 27 (0, 0)) ∧ wr.heap[w.heap.size + 1 + 1]? = some (.cells (Ls [0, 0, 0, 0]) 27 (0, 0)) ∧ wr.heap[w.heap.size + 1 + 1 + 1]? = some (.cells (Ls [0, 0, 0, 0]) 27 (0, 0)) ∧ Below w.heap.size w wr) (fun s15 _ => 4 - (intOf s15).toNat)
  case atStart =>
    obtain ⟨h0, h1, h2, h3⟩ := heap_alloc4 w (.cells (E v) 27) (.cells (E u) 27) (.cells (Ls [0, 0, 0, 0]) 27) (.cells (Ls [0, 0, 0, 0]) 27)
    exact ⟨0, lim v, lim u, by omega, rfl, Four.lim v, Four.lim u, fun t => by simp, fun t => by simp, h0, h1, h2, h3, ((((Below.refl _ _).alloc (Nat.le_refl _) _).alloc (by simp) _).alloc (by simp; omega) _).alloc (by simp; omega) _⟩
  case round =>
    obtain ⟨i, la, lb, hi, rfl, h4a, h4b, hea, heb, hb0, hb1, hb2, hb3, hB⟩ := hrel
    have HA := Lib.hid h4a
    have HBb := Lib.hid h4b
    have HEA := Lib.hid hea
    have HEB := Lib.hid heb
    have HB0 := Lib.hid hb0
    have HB1 := Lib.hid hb1
    have HB2 := Lib.hid hb2
    have HB3 := Lib.hid hb3
    have HB := Lib.hid hB
    clear h4a h4b hea heb hb0 hb1 hb2 hb3 hB
    by_cases hi4 : i < 4
    · have q0 := ls_cell HB0.out i (by rw [HA.out.1]; exact hi4)
      have q1 := ls_cell HB1.out i (by rw [HBb.out.1]; exact hi4)
      have hxa := HEA.out i
      have hxb := HEB.out i
      rw [if_neg (Nat.lt_irrefl i)] at hxa hxb
      rw [hxa] at q0
      rw [hxb] at q1
      have hwv := (Four.lim v).get i
      have hwu := (Four.lim u).get i
      obtain ⟨X, hX⟩ : ∃ X, (lim v).getD i 0 = X := ⟨_, rfl⟩
      obtain ⟨Y, hY⟩ : ∃ Y, (lim u).getD i 0 = Y := ⟨_, rfl⟩
      rw [hX] at q0 hwv
      rw [hY] at q1 hwu
      obtain ⟨m1, m2⟩ := mask_on X Y hwv hwu
      have HX := Lib.hid hX
      have HY := Lib.hid hY
      have HWV := Lib.hid hwv
      have HWU := Lib.hid hwu
      obtain ⟨Z, hZ⟩ : ∃ Z, bits .and .u64 (bits .xor .u64 X Y) 18446744073709551615 = Z := ⟨_, rfl⟩
      rw [hZ] at m1 m2
      have f0 := blk_frozen HB0.out i
      have f1 := blk_frozen HB1.out i
      clear hX hY hwv hwu hxa hxb
      go_wp2_with fail
      go_quiet (fail)
      go_wp2
      go_roundw
      case rel =>
        refine ⟨i + 1, la.set i Y, lb.set i X, by omega, by go_num, HA.out.set i _ HWU.out, HBb.out.set i _ HWV.out, fun t => ?_, fun t => ?_, ?_, ?_, (blk_far (blk_far HB2.out (by dsimp only; omega) _) (by dsimp only; omega) _), (blk_far (blk_far HB3.out (by dsimp only; omega) _) (by dsimp only; omega) _), ?_⟩
        · by_cases e : t = i
          · subst e
            rw [getD_set_self _ _ _ (by rw [HA.out.1]; exact hi4), if_pos (by omega), HY.out]
          · rw [getD_set_ne _ _ _ _ (fun h => e h.symm), HEA.out]
            by_cases h1 : t < i
            · rw [if_pos h1, if_pos (by omega)]
            · rw [if_neg h1, if_neg (by omega)]
        · by_cases e : t = i
          · subst e
            rw [getD_set_self _ _ _ (by rw [HBb.out.1]; exact hi4), if_pos (by omega), HX.out]
          · rw [getD_set_ne _ _ _ _ (fun h => e h.symm), HEB.out]
            by_cases h1 : t < i
            · rw [if_pos h1, if_pos (by omega)]
            · rw [if_neg h1, if_neg (by omega)]
        · exact blk_far (p := ⟨w.heap.size + 1, i, none⟩) (ls_set HB0.out i Y) (by dsimp only; omega) _
        · exact ls_set (blk_far (p := ⟨w.heap.size, i, none⟩) HB1.out (by dsimp only; omega) _) i X
        · exact pw_below_drewN ((HB.out.setCell (by dsimp only; omega) _).setCell (by dsimp only; omega) _) nq
      case measure => simp [intOf] <;> omega
    · obtain rfl : i = 4 := by omega
      have e1 : la = lim u := Four.ext HA.out.1 rfl (fun t ht => by rw [HEA.out, if_pos ht])
      have e2 : lb = lim v := Four.ext HBb.out.1 rfl (fun t ht => by rw [HEB.out, if_pos ht])
      have HE1 := Lib.hid e1
      have HE2 := Lib.hid e2
      have HS0 : Hid (HS w [(w.heap.size, la), (w.heap.size + 1, lb)] [w.heap.size + 1 + 1, w.heap.size + 1 + 1 + 1] wr) := by
        refine ⟨HB.out, fun x hx => ?_, fun g hg => ?_⟩
        · simp only [List.mem_cons, List.not_mem_nil, or_false] at hx
          rcases hx with rfl | rfl
          · exact ⟨Nat.le_refl _, HB0.out⟩
          · exact ⟨by dsimp only; omega, HB1.out⟩
        · simp only [List.mem_cons, List.not_mem_nil, or_false] at hg
          rcases hg with rfl | rfl
          · exact ⟨by omega, _, rfl, HB2.out⟩
          · exact ⟨by omega, _, rfl, HB3.out⟩
      clear e1 e2 HB HB0 HB1 HB2 HB3 HEA HEB
      go_wp2_with fail
      refine wp_region_held_drew (S := HS w [(w.heap.size, la), (w.heap.size + 1, lb)] [w.heap.size + 1 + 1, w.heap.size + 1 + 1 + 1]) (by kernel_rfl) HS0.out.drew (fun hst => ?_)
      refine wpAnyH_take (i := 0) (oi := { dst := some 40, op := Op.load 27 (Operand.tmp 4), type := 27, pos := "field.go:156", after := #[], guard := none }) (v := .agg (Ls la)) rfl (by kernel_rfl) (by kernel_rfl) (by kernel_rfl) (fun _ _ _ h => h) (yload (by rfl) _ rfl w.heap.size la rfl (by simp) HA.out.1) hst ?_
      simp only [Act.put, List.setIfInBounds_toArray, List.set_cons_zero, List.set_cons_succ]
      refine wpAnyH_take (i := 1) (oi := { dst := some 41, op := Op.load 27 (Operand.tmp 5), type := 27, pos := "field.go:156", after := #[{ on := 2, ground := Ground.gcOnly Departure.lateStores }], guard := none }) (v := .agg (Ls lb)) rfl (by kernel_rfl) (by kernel_rfl) (by kernel_rfl) (fun _ _ _ h => h) (yload (by rfl) _ rfl (w.heap.size + 1) lb rfl (by simp) HBb.out.1) hst ?_
      simp only [Act.put, List.setIfInBounds_toArray, List.set_cons_zero, List.set_cons_succ]
      refine wpAnyH_ready (rs := [2]) (by kernel_rfl) (by simp) ?_
      refine AllReadyH.cons (o := { dst := none, op := Op.store 27 (Operand.tmp 6) (Operand.tmp 40), type := 0, pos := "field.go:156", after := #[{ on := 0, ground := Ground.data }, { on := 0, ground := Ground.phase }, { on := 1, ground := Ground.textOnly Departure.lateStores }], guard := none }) rfl (fun K hK => ?_) ?_
      · obtain ⟨qa, ql, qb, qc⟩ := hst.slots (w.heap.size + 1 + 1) (by simp)
        refine step_store27 rfl _ _ rfl (w.heap.size + 1 + 1) la ql rfl rfl qc qb HA.out.1 ?_
        refine hK.out _ _ (hst.row (w.heap.size + 1 + 1) qa (by simp; omega) _ HA.out.1 qc) (fun hs2 => ?_)
        have hn := ls_row (cs := Ls la) qc
        clear hK K
        refine wpAnyH_ready (rs := [3]) (by kernel_rfl) (by simp) ?_
        refine AllReadyH.cons (o := { dst := none, op := Op.store 27 (Operand.tmp 7) (Operand.tmp 41), type := 0, pos := "field.go:156", after := #[{ on := 1, ground := Ground.data }, { on := 2, ground := Ground.chain }, { on := 0, ground := Ground.phase }, { on := 1, ground := Ground.phase }, { on := 2, ground := Ground.phase }], guard := none }) rfl (fun K hK => ?_) ?_
        · obtain ⟨pa, pl, pb, pc⟩ := hs2.slots (w.heap.size + 1 + 1 + 1) (by simp)
          refine step_store27 rfl _ _ rfl (w.heap.size + 1 + 1 + 1) lb pl rfl rfl pc pb HBb.out.1 ?_
          refine hK.out _ _ (hs2.row (w.heap.size + 1 + 1 + 1) pa (by simp; omega) _ HBb.out.1 pc) (fun hs3 => ?_)
          have hn2 := ls_row (cs := Ls lb) pc
          have hn1 := blk_row (g := w.heap.size + 1 + 1 + 1) (cs := Ls lb) hn (by omega)
          clear hK K
          refine wpAnyH_done (by kernel_rfl) ?_ _
          go_wp2_with fail
          refine ret27_2 rfl (w.heap.size + 1 + 1) (w.heap.size + 1 + 1 + 1) la lb rfl rfl hn1 hn2 HA.out.1 HBb.out.1 rfl ?_
          exact ⟨by rw [HE1.out, HE2.out]; rfl, hs3.below⟩
        exact AllReadyH.nil
      exact AllReadyH.nil

set_option maxHeartbeats 1000000 in
theorem swap_off (bit : Int) (hbit : bit ≠ 1) (v u : Int) (w : World) :
    Calls Try.prog 37 #[.int .i64 bit, .agg (E v), .agg (E u)] w fun e w' => e = .returned (.tuple #[.agg (E v), .agg (E u)]) ∧ Below w.heap.size w w' := by
  have hb1 : (bit == 1) = false := beq_eq_false_iff_ne.2 hbit
  clear hbit
  go_enter Try.func37, Try.ntmps37
  go_wp2
  go_loopw [15] (fun s15 wr => ∃ (i : Nat) (la lb : List Int), i ≤ 4 ∧ s15 = .int .i64 i ∧ Four la ∧ Four lb ∧ (∀ t, la.getD t 0 = if t < i then (lim v).getD t 0 else (lim v).getD t 0) ∧ (∀ t, lb.getD t 0 = if t < i then (lim u).getD t 0 else (lim u).getD t 0) ∧ wr.heap[w.heap.size]? = some (.cells (Ls la) 27 (0, 0)) ∧ wr.heap[w.heap.size + 1]? = some (.cells (Ls lb) 27 (0, 0)) ∧ wr.heap[w.heap.size + 1 + 1]? = some (.cells (Ls [0, 0, 0, 0]) 27 (0, 0)) ∧ wr.heap[w.heap.size + 1 + 1 + 1]? = some (.cells (Ls [0, 0, 0, 0]) 27 (0, 0)) ∧ Below w.heap.size w wr) (fun s15 _ => 4 - (intOf s15).toNat)
  case atStart =>
    obtain ⟨h0, h1, h2, h3⟩ := heap_alloc4 w (.cells (E v) 27) (.cells (E u) 27) (.cells (Ls [0, 0, 0, 0]) 27) (.cells (Ls [0, 0, 0, 0]) 27)
    exact ⟨0, lim v, lim u, by omega, rfl, Four.lim v, Four.lim u, fun t => by simp, fun t => by simp, h0, h1, h2, h3, ((((Below.refl _ _).alloc (Nat.le_refl _) _).alloc (by simp) _).alloc (by simp; omega) _).alloc (by simp; omega) _⟩
  case round =>
    obtain ⟨i, la, lb, hi, rfl, h4a, h4b, hea, heb, hb0, hb1, hb2, hb3, hB⟩ := hrel
    have HA := Lib.hid h4a
    have HBb := Lib.hid h4b
    have HEA := Lib.hid hea
    have HEB := Lib.hid heb
    have HB0 := Lib.hid hb0
    have HB1 := Lib.hid hb1
    have HB2 := Lib.hid hb2
    have HB3 := Lib.hid hb3
    have HB := Lib.hid hB
    clear h4a h4b hea heb hb0 hb1 hb2 hb3 hB
    by_cases hi4 : i < 4
    · have q0 := ls_cell HB0.out i (by rw [HA.out.1]; exact hi4)
      have q1 := ls_cell HB1.out i (by rw [HBb.out.1]; exact hi4)
      have hxa := HEA.out i
      have hxb := HEB.out i
      rw [if_neg (Nat.lt_irrefl i)] at hxa hxb
      rw [hxa] at q0
      rw [hxb] at q1
      have hwv := (Four.lim v).get i
      have hwu := (Four.lim u).get i
      obtain ⟨X, hX⟩ : ∃ X, (lim v).getD i 0 = X := ⟨_, rfl⟩
      obtain ⟨Y, hY⟩ : ∃ Y, (lim u).getD i 0 = Y := ⟨_, rfl⟩
      rw [hX] at q0 hwv
      rw [hY] at q1 hwu
      obtain ⟨m1, m2⟩ := mask_off X Y hwv hwu
      have HX := Lib.hid hX
      have HY := Lib.hid hY
      have HWV := Lib.hid hwv
      have HWU := Lib.hid hwu
      obtain ⟨Z, hZ⟩ : ∃ Z, bits .and .u64 (bits .xor .u64 X Y) 0 = Z := ⟨_, rfl⟩
      rw [hZ] at m1 m2
      have f0 := blk_frozen HB0.out i
      have f1 := blk_frozen HB1.out i
      clear hX hY hwv hwu hxa hxb
      go_wp2_with fail
      go_quiet (fail)
      go_wp2
      go_roundw
      case rel =>
        refine ⟨i + 1, la.set i X, lb.set i Y, by omega, by go_num, HA.out.set i _ HWV.out, HBb.out.set i _ HWU.out, fun t => ?_, fun t => ?_, ?_, ?_, (blk_far (blk_far HB2.out (by dsimp only; omega) _) (by dsimp only; omega) _), (blk_far (blk_far HB3.out (by dsimp only; omega) _) (by dsimp only; omega) _), ?_⟩
        · by_cases e : t = i
          · subst e
            rw [getD_set_self _ _ _ (by rw [HA.out.1]; exact hi4), if_pos (by omega), HX.out]
          · rw [getD_set_ne _ _ _ _ (fun h => e h.symm), HEA.out]
            by_cases h1 : t < i
            · rw [if_pos h1, if_pos (by omega)]
            · rw [if_neg h1, if_neg (by omega)]
        · by_cases e : t = i
          · subst e
            rw [getD_set_self _ _ _ (by rw [HBb.out.1]; exact hi4), if_pos (by omega), HY.out]
          · rw [getD_set_ne _ _ _ _ (fun h => e h.symm), HEB.out]
            by_cases h1 : t < i
            · rw [if_pos h1, if_pos (by omega)]
            · rw [if_neg h1, if_neg (by omega)]
        · exact blk_far (p := ⟨w.heap.size + 1, i, none⟩) (ls_set HB0.out i X) (by dsimp only; omega) _
        · exact ls_set (blk_far (p := ⟨w.heap.size, i, none⟩) HB1.out (by dsimp only; omega) _) i Y
        · exact pw_below_drewN ((HB.out.setCell (by dsimp only; omega) _).setCell (by dsimp only; omega) _) nq
      case measure => simp [intOf] <;> omega
    · obtain rfl : i = 4 := by omega
      have e1 : la = lim v := Four.ext HA.out.1 rfl (fun t ht => by rw [HEA.out, if_pos ht])
      have e2 : lb = lim u := Four.ext HBb.out.1 rfl (fun t ht => by rw [HEB.out, if_pos ht])
      have HE1 := Lib.hid e1
      have HE2 := Lib.hid e2
      have HS0 : Hid (HS w [(w.heap.size, la), (w.heap.size + 1, lb)] [w.heap.size + 1 + 1, w.heap.size + 1 + 1 + 1] wr) := by
        refine ⟨HB.out, fun x hx => ?_, fun g hg => ?_⟩
        · simp only [List.mem_cons, List.not_mem_nil, or_false] at hx
          rcases hx with rfl | rfl
          · exact ⟨Nat.le_refl _, HB0.out⟩
          · exact ⟨by dsimp only; omega, HB1.out⟩
        · simp only [List.mem_cons, List.not_mem_nil, or_false] at hg
          rcases hg with rfl | rfl
          · exact ⟨by omega, _, rfl, HB2.out⟩
          · exact ⟨by omega, _, rfl, HB3.out⟩
      clear e1 e2 HB HB0 HB1 HB2 HB3 HEA HEB
      go_wp2_with fail
      refine wp_region_held_drew (S := HS w [(w.heap.size, la), (w.heap.size + 1, lb)] [w.heap.size + 1 + 1, w.heap.size + 1 + 1 + 1]) (by kernel_rfl) HS0.out.drew (fun hst => ?_)
      refine wpAnyH_take (i := 0) (oi := { dst := some 40, op := Op.load 27 (Operand.tmp 4), type := 27, pos := "field.go:156", after := #[], guard := none }) (v := .agg (Ls la)) rfl (by kernel_rfl) (by kernel_rfl) (by kernel_rfl) (fun _ _ _ h => h) (yload (by rfl) _ rfl w.heap.size la rfl (by simp) HA.out.1) hst ?_
      simp only [Act.put, List.setIfInBounds_toArray, List.set_cons_zero, List.set_cons_succ]
      refine wpAnyH_take (i := 1) (oi := { dst := some 41, op := Op.load 27 (Operand.tmp 5), type := 27, pos := "field.go:156", after := #[{ on := 2, ground := Ground.gcOnly Departure.lateStores }], guard := none }) (v := .agg (Ls lb)) rfl (by kernel_rfl) (by kernel_rfl) (by kernel_rfl) (fun _ _ _ h => h) (yload (by rfl) _ rfl (w.heap.size + 1) lb rfl (by simp) HBb.out.1) hst ?_
      simp only [Act.put, List.setIfInBounds_toArray, List.set_cons_zero, List.set_cons_succ]
      refine wpAnyH_ready (rs := [2]) (by kernel_rfl) (by simp) ?_
      refine AllReadyH.cons (o := { dst := none, op := Op.store 27 (Operand.tmp 6) (Operand.tmp 40), type := 0, pos := "field.go:156", after := #[{ on := 0, ground := Ground.data }, { on := 0, ground := Ground.phase }, { on := 1, ground := Ground.textOnly Departure.lateStores }], guard := none }) rfl (fun K hK => ?_) ?_
      · obtain ⟨qa, ql, qb, qc⟩ := hst.slots (w.heap.size + 1 + 1) (by simp)
        refine step_store27 rfl _ _ rfl (w.heap.size + 1 + 1) la ql rfl rfl qc qb HA.out.1 ?_
        refine hK.out _ _ (hst.row (w.heap.size + 1 + 1) qa (by simp; omega) _ HA.out.1 qc) (fun hs2 => ?_)
        have hn := ls_row (cs := Ls la) qc
        clear hK K
        refine wpAnyH_ready (rs := [3]) (by kernel_rfl) (by simp) ?_
        refine AllReadyH.cons (o := { dst := none, op := Op.store 27 (Operand.tmp 7) (Operand.tmp 41), type := 0, pos := "field.go:156", after := #[{ on := 1, ground := Ground.data }, { on := 2, ground := Ground.chain }, { on := 0, ground := Ground.phase }, { on := 1, ground := Ground.phase }, { on := 2, ground := Ground.phase }], guard := none }) rfl (fun K hK => ?_) ?_
        · obtain ⟨pa, pl, pb, pc⟩ := hs2.slots (w.heap.size + 1 + 1 + 1) (by simp)
          refine step_store27 rfl _ _ rfl (w.heap.size + 1 + 1 + 1) lb pl rfl rfl pc pb HBb.out.1 ?_
          refine hK.out _ _ (hs2.row (w.heap.size + 1 + 1 + 1) pa (by simp; omega) _ HBb.out.1 pc) (fun hs3 => ?_)
          have hn2 := ls_row (cs := Ls lb) pc
          have hn1 := blk_row (g := w.heap.size + 1 + 1 + 1) (cs := Ls lb) hn (by omega)
          clear hK K
          refine wpAnyH_done (by kernel_rfl) ?_ _
          go_wp2_with fail
          refine ret27_2 rfl (w.heap.size + 1 + 1) (w.heap.size + 1 + 1 + 1) la lb rfl rfl hn1 hn2 HA.out.1 HBb.out.1 rfl ?_
          exact ⟨by rw [HE1.out, HE2.out]; rfl, hs3.below⟩
        exact AllReadyH.nil
      exact AllReadyH.nil

end Go.Proofs.Ytfklojheogidpaa
