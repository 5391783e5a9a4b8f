import Derived.Test.YtkcjgkfgjbhfnaaWinPlays
set_option linter.unusedVariables false
namespace Go.Proofs.Ytkcjgkfgjbhfnaa
open Go.RowKit Go.Proofs.YtkcjgkfgjbhfnaaW.PrintWords

theorem topL_same {l l2 : List Int} (h0 : ∀ x ∈ l, 0 ≤ x) (h : ∀ x, x ∈ l2 ↔ x ∈ l) : topL l2 = topL l := by
  by_cases hn : l = []
  · subst hn
    have : l2 = [] := List.eq_nil_iff_forall_not_mem.2 fun x hx => by have := (h x).1 hx; cases this
    rw [this]
  · have hn2 : l2 ≠ [] := fun e => by
      obtain ⟨x, hx⟩ := List.exists_mem_of_ne_nil l hn
      have := (h x).2 hx
      rw [e] at this; cases this
    have a := topL_ge l _ ((h _).1 (topL_mem l2 (fun x hx => h0 x ((h x).1 hx)) hn2))
    have b := topL_ge l2 _ ((h _).2 (topL_mem l h0 hn))
    omega
theorem chk_same {l l2 : List Int} (h0 : ∀ x ∈ l, 0 ≤ x) (h : ∀ x, x ∈ l2 ↔ x ∈ l) (n : Int) : chk l2 n = chk l n := by
  unfold chk
  rw [topL_same h0 h]
  simp only [h]
theorem some_same {l l2 : List Int} (h : ∀ x, x ∈ l2 ↔ x ∈ l) : decide (l2 ≠ []) = decide (l ≠ []) := by
  rw [decide_eq_decide]
  constructor
  · rintro h1 rfl
    obtain ⟨x, hx⟩ := List.exists_mem_of_ne_nil l2 h1
    have := (h x).1 hx
    cases this
  · rintro h1 rfl
    obtain ⟨x, hx⟩ := List.exists_mem_of_ne_nil l h1
    have := (h x).2 hx
    cases this
theorem chk_near {b : Int} {l : List Int} (hb : 0 ≤ b) (h : ∀ x ∈ l, b ≤ x ∧ x < b + 128) (n : Int) (h1 : b ≤ n) (h2 : n < b + 128) : chk l n = if n ∈ l then 43 else 0 := by
  unfold chk
  by_cases hm : n ∈ l
  · rw [if_pos hm, if_pos hm]
  · rw [if_neg hm, if_neg hm, if_neg]
    intro h3
    by_cases hn : l = []
    · rw [hn, topL_nil] at h3; omega
    · have := h _ (topL_mem l (fun x hx => by have := h x hx; omega) hn)
      omega

theorem mask63 (x : Int) (h0 : 0 ≤ x) (h1 : x ≤ 18446744073709551615) : bits .and .u64 x 9223372036854775807 = x % 9223372036854775808 :=
  bits_mask .u64 64 (by decide) (fun n h0 h1 => IntWalk.u64_in n ⟨h0, by omega⟩) 63 (by decide) x h0 (by omega)
theorem mask7 (x : Int) (h0 : 0 ≤ x) (h1 : x ≤ 255) : bits .and .u8 x 127 = x % 128 :=
  bits_mask .u8 8 (by decide) (fun n h0 h1 => IntWalk.u8_in n ⟨h0, by omega⟩) 7 (by decide) x h0 (by omega)

/-- The numbers that the steps name. -/
def stepOf (b : Int) (l1 : List Int) (i : Nat) : Int := b + rd l1 (i : Int) % 128
/-- Block g notes which of the numbers from b on stand in l. -/
def SeenAt (w : World) (g : Nat) (b : Int) (l : List Int) : Prop := ∃ cells : Array Value, w.heap[g]? = some (.cells cells 38 (0, 0)) ∧ cells.size = 256 ∧ ∀ i : Nat, i < 256 → cells[i]? = some (.bool (decide (b + (i : Int) ∈ l)))
theorem SeenAt.keep {w w' : World} {g : Nat} {b : Int} {l : List Int} (h : SeenAt w g b l) (hk : w'.heap[g]? = w.heap[g]?) : SeenAt w' g b l := by
  obtain ⟨cells, h1, h2⟩ := h
  exact ⟨cells, hk.trans h1, h2⟩
theorem SeenAt.lt {w : World} {g : Nat} {b : Int} {l : List Int} (h : SeenAt w g b l) : g < w.heap.size := by
  obtain ⟨cells, h1, h2⟩ := h
  exact blk_lt h1
theorem SeenAt.cell {w : World} {g : Nat} {b : Int} {l : List Int} (h : SeenAt w g b l) (i : Nat) (hi : i < 256) : w.cell? ⟨g, i, none⟩ = some (.bool (decide (b + (i : Int) ∈ l))) ∧ w.frozen? ⟨g, i, none⟩ = false := by
  obtain ⟨cells, h1, h2, h3⟩ := h
  exact ⟨(blk_cell h1 i).trans (h3 i hi), blk_frozen h1 i⟩
theorem SeenAt.put {w : World} {g : Nat} {b : Int} {l l' : List Int} (h : SeenAt w g b l) (k : Nat) (hk : k < 256) (hl : ∀ x, x ∈ l' ↔ x ∈ l ∨ x = b + (k : Int)) : SeenAt (w.setCell ⟨g, k, none⟩ (.bool true)) g b l' := by
  obtain ⟨cells, h1, h2, h3⟩ := h
  refine ⟨_, blk_set h1 k _, by simpa using h2, fun i hi => ?_⟩
  rw [Array.getElem?_setIfInBounds]
  by_cases e : k = i
  · subst e
    rw [if_pos rfl, if_pos (by omega)]
    have : b + (k : Int) ∈ l' := (hl _).2 (.inr rfl)
    simp [this]
  · rw [if_neg e, h3 i hi]
    have : b + (i : Int) ∈ l' ↔ b + (i : Int) ∈ l := by
      rw [hl]
      exact ⟨fun h => h.resolve_right (by omega), .inl⟩
    simp [this]


def seen0 : Array Value := ⟨List.replicate 256 (.bool false)⟩
theorem zero38 (W : World) : Sem.run Try.prog (zeroValue 38) W = .ok (.agg seen0) W := by kernel_rfl
theorem SeenAt.new (w : World) (b : Int) : SeenAt (w.alloc (.cells seen0 38)) w.heap.size b [] := by
  refine ⟨seen0, heap_alloc_new w _, by decide +kernel, fun i hi => ?_⟩
  have : seen0[i]? = (List.replicate 256 (Value.bool false))[i]? := List.getElem?_toArray
  rw [this, List.getElem?_replicate, if_pos hi]
  rfl


set_option maxHeartbeats 4000000 in
set_option maxRecDepth 100000 in
theorem near_short (w : World) (a0 : Int) (A1 : Option Addr) (c1 : Nat) (l1 : List Int)
    (b0 : 0 ≤ a0 ∧ a0 ≤ 18446744073709551615) (hC1 : Kd.C (Kd.int .u8) w A1 l1.length l1) (hc1 : l1.length ≤ c1) (hy1 : l1.length * 1 ≤ 140737488351232) (hw1 : ∀ x ∈ l1, 0 ≤ x ∧ x ≤ 255) (hN : l1.length ≤ 300) :
    Calls Try.prog 4 #[.int .u64 a0, .slice A1 l1.length c1] w fun e w' => e = .returned (.bool true) ∧ Below w.heap.size w w' := by
  obtain ⟨b, hb, hb0, hb1⟩ : ∃ b, bits .and .u64 a0 9223372036854775807 = b ∧ 0 ≤ b ∧ b < 9223372036854775808 := ⟨_, mask63 a0 b0.1 b0.2, by omega, by omega⟩
  have HC1 := Lib.hid hC1
  have HW1 := Lib.hid hw1
  have hst : Hid (∀ i : Nat, i < l1.length → b ≤ stepOf b l1 i ∧ stepOf b l1 i < b + 128) := fun i hi => by
    unfold stepOf
    omega
  have hdec : decide ((300 : Int) < (l1.length : Int)) = false := by simp; omega
  clear hC1 hw1 b0
  go_enter Try.func4, Try.ntmps4
  go_wp2_with fail
  refine (awake_any _).mono ?_
  rintro e w1 ⟨rfl, B1⟩
  have hz := B1.size
  have HB := Lib.hid B1
  clear B1
  have hz38 := zero38
  go_wp2
  clear hz38
  have hbw := WinAt.new w1
  have hbv := WinAt.new (w1.alloc (.cells #[.bool false, .int .u64 0, .int .u64 0, .int .u64 0] 27))
  have hss := SeenAt.new ((w1.alloc (.cells #[.bool false, .int .u64 0, .int .u64 0, .int .u64 0] 27)).alloc (.cells #[.bool false, .int .u64 0, .int .u64 0, .int .u64 0] 27)) b
  have hbb := ((HB.out.alloc hz (.cells #[.bool false, .int .u64 0, .int .u64 0, .int .u64 0] 27)).alloc (by simp; omega) (.cells #[.bool false, .int .u64 0, .int .u64 0, .int .u64 0] 27)).alloc (by simp; omega) (.cells seen0 38)
  have HBW := Lib.hid (hbw.keep (w' := ((w1.alloc (.cells #[.bool false, .int .u64 0, .int .u64 0, .int .u64 0] 27)).alloc (.cells #[.bool false, .int .u64 0, .int .u64 0, .int .u64 0] 27)).alloc (.cells seen0 38)) (by
    rw [Below.heap_alloc _ _ _ (by simp; omega), Below.heap_alloc _ _ _ (by simp)]))
  have HBV := Lib.hid (hbv.keep (w' := ((w1.alloc (.cells #[.bool false, .int .u64 0, .int .u64 0, .int .u64 0] 27)).alloc (.cells #[.bool false, .int .u64 0, .int .u64 0, .int .u64 0] 27)).alloc (.cells seen0 38)) (by
    rw [Below.heap_alloc _ _ _ (by simp)]))
  have hg1 : (w1.alloc (.cells #[.bool false, .int .u64 0, .int .u64 0, .int .u64 0] 27)).heap.size = w1.heap.size + 1 := by simp
  have hg2 : ((w1.alloc (.cells #[.bool false, .int .u64 0, .int .u64 0, .int .u64 0] 27)).alloc (.cells #[.bool false, .int .u64 0, .int .u64 0, .int .u64 0] 27)).heap.size = w1.heap.size + 1 + 1 := by simp
  rw [hg1] at HBV
  rw [hg2] at hss
  have HSS := Lib.hid hss
  have HBB := Lib.hid hbb
  clear hbw hbv hss hbb hg1 hg2 HB
  generalize w1.heap.size = g at *
  go_loopw [10] (fun i wr => ∃ (j : Nat) (l : List Int), j ≤ l1.length ∧ (j : Int) ≤ (l1.length : Int) ∧ i = .int .i64 j ∧ WinAt wr g l ∧ WinAt wr (g + 1) [] ∧ SeenAt wr (g + 1 + 1) b l ∧ (∀ x, x ∈ l ↔ ∃ i, i < j ∧ x = stepOf b l1 i) ∧ Below w.heap.size w wr) (fun i _ => 300 - (intOf i).toNat)
  case atStart => exact ⟨0, [], by omega, by omega, rfl, HBW.out, HBV.out, HSS.out, by simp, HBB.out⟩
  case round =>
    clear HBW HBV HSS HBB
    obtain ⟨j, l, hj, hj2, rfl, hw, hv, hs, hm, hB⟩ := hrel
    have HW := Lib.hid hw
    have HV := Lib.hid hv
    have HS := Lib.hid hs
    have HM := Lib.hid hm
    have HB := Lib.hid hB
    clear hw hv hs hm hB
    have hnear : Hid (∀ x ∈ l, b ≤ x ∧ x < b + 128) := fun x hx => by
      obtain ⟨i, hi, rfl⟩ := (HM.out x).1 hx
      exact hst.out i (by omega)
    by_cases hlt : (j : Int) < (l1.length : Int)
    · have hltl : j < l1.length := by omega
      obtain ⟨ad1, e1, hy0⟩ := Kd.at_int HC1.out (j : Int) (by omega) (by omega)
      cases e1
      have hyr := HW1.out (rd l1 j) (by rw [rd_nat l1 j hltl]; exact List.getElem_mem hltl)
      rw [Int.toNat_natCast] at hy0
      have hx : Hid (stepOf b l1 j = b + rd l1 j % 128) := rfl
      have q2 := pw_cell_below HB.out hy0
      clear hy0
      generalize rd l1 (j : Int) = y at q2 hyr hx
      obtain ⟨hy1', hy2'⟩ := hyr
      have hmk := mask7 y hy1' hy2'
      obtain ⟨k, hk⟩ : ∃ k : Nat, y % 128 = (k : Int) := ⟨(y % 128).toNat, by omega⟩
      have hk1 : k < 128 := by omega
      rw [hk] at hmk
      have hx2 : Hid (stepOf b l1 j = b + (k : Int)) := by rw [hx.out, hk]; rfl
      clear hk hx
      have hc := chk_near hb0 hnear.out (b + (k : Int)) (by omega) (by omega)
      obtain ⟨q3, q4⟩ := HS.out.cell k (by omega)
      by_cases hmem : b + (k : Int) ∈ l
      · rw [if_pos hmem] at hc
        have HCK := Lib.hid hc
        have hd1 : decide (b + (k : Int) ∈ l) = true := decide_eq_true hmem
        rw [hd1] at q3
        have HMM := Lib.hid hmem
        clear hc hmem hd1 q3 q4
        go_wp2_with fail
        refine (mark_list HW.out (b + (k : Int)) (by omega) (by omega)).mono ?_
        rw [HCK.out, if_neg (by omega)]
        rintro e w3 ⟨rfl, h3, o3⟩
        have H3 := Lib.hid h3
        have HV3 := Lib.hid (HV.out.keep (o3.block _ (by omega)))
        have HS3 := Lib.hid (HS.out.keep (o3.block _ (by omega)))
        have HB3 := Lib.hid (o3.below HB.out hz)
        have HW3 := Lib.hid o3
        clear h3 o3
        obtain ⟨q3, q4⟩ := HS3.out.cell k (by omega)
        rw [decide_eq_true HMM.out] at q3
        go_wp2
        go_roundw
        case rel =>
          refine ⟨j + 1, l, by omega, by omega, by go_num, H3.out.keep (Below.heap_setCell _ _ _ _ (by dsimp only; omega)), HV3.out.keep (Below.heap_setCell _ _ _ _ (by dsimp only; omega)), HS3.out.put k (by omega) (fun x => ?_), fun x => ?_, HB3.out.setCell (by dsimp only; omega) _⟩
          · exact ⟨.inl, fun h => h.elim id (fun h => by rw [h]; exact HMM.out)⟩
          · rw [HM.out]
            constructor
            · rintro ⟨i, hi, rfl⟩; exact ⟨i, by omega, rfl⟩
            · rintro ⟨i, hi, rfl⟩
              by_cases he : i = j
              · subst he
                exact (HM.out _).1 (by rw [hx2.out]; exact HMM.out)
              · exact ⟨i, by omega, rfl⟩
        case measure => simp [intOf] <;> omega
      · rw [if_neg hmem] at hc
        have HCK := Lib.hid hc
        have hd1 : decide (b + (k : Int) ∈ l) = false := decide_eq_false hmem
        have HMM := Lib.hid hmem
        clear hc hmem hd1 q3 q4
        go_wp2_with fail
        refine (mark_list HW.out (b + (k : Int)) (by omega) (by omega)).mono ?_
        rw [HCK.out, if_pos rfl]
        rintro e w3 ⟨rfl, h3, o3⟩
        have H3 := Lib.hid h3
        have HV3 := Lib.hid (HV.out.keep (o3.block _ (by omega)))
        have HS3 := Lib.hid (HS.out.keep (o3.block _ (by omega)))
        have HB3 := Lib.hid (o3.below HB.out hz)
        have HW3 := Lib.hid o3
        clear h3 o3
        obtain ⟨q3, q4⟩ := HS3.out.cell k (by omega)
        rw [decide_eq_false HMM.out] at q3
        go_wp2
        go_roundw
        case rel =>
          refine ⟨j + 1, l ++ [b + (k : Int)], by omega, by omega, by go_num, H3.out.keep (Below.heap_setCell _ _ _ _ (by dsimp only; omega)), HV3.out.keep (Below.heap_setCell _ _ _ _ (by dsimp only; omega)), HS3.out.put k (by omega) (fun x => ?_), fun x => ?_, HB3.out.setCell (by dsimp only; omega) _⟩
          · simp
          · rw [List.mem_append, HM.out, List.mem_singleton]
            constructor
            · rintro (⟨i, hi, rfl⟩ | rfl)
              · exact ⟨i, by omega, rfl⟩
              · exact ⟨j, by omega, hx2.out.symm⟩
            · rintro ⟨i, hi, rfl⟩
              by_cases he : i = j
              · subst he
                exact .inr hx2.out
              · exact .inl ⟨i, by omega, rfl⟩
        case measure => simp [intOf] <;> omega
    · have hje : (j : Int) = (l1.length : Int) := by omega
      have HJ := Lib.hid hje
      clear hje
      go_wp2
      go_loopw [14] (fun i wr => ∃ (q : Int) (l2 : List Int), -1 ≤ q ∧ q ≤ (l1.length : Int) - 1 ∧ i = .int .i64 q ∧ WinAt wr g l ∧ WinAt wr (g + 1) l2 ∧ (∀ x, x ∈ l2 ↔ ∃ i : Nat, q < (i : Int) ∧ (i : Int) < (l1.length : Int) ∧ x = stepOf b l1 i) ∧ Below w.heap.size w wr) (fun i _ => (intOf i + 1).toNat)
      case atStart => exact ⟨_, [], by omega, by omega, rfl, HW.out, HV.out, fun x => ⟨(fun h => by cases h), (by rintro ⟨i, h1, h2, _⟩; omega)⟩, HB.out⟩
      case round =>
        clear HW HV HS HB
        obtain ⟨q, l2, hq1, hq2, rfl, hw, hv, hm2, hB⟩ := hrel
        have HW := Lib.hid hw
        have HV := Lib.hid hv
        have HM2 := Lib.hid hm2
        have HB := Lib.hid hB
        clear hw hv hm2 hB
        by_cases hq0 : 0 ≤ q
        · obtain ⟨s, rfl⟩ := Int.eq_ofNat_of_zero_le hq0
          have hsl : s < l1.length := by omega
          obtain ⟨ad1, e1, hy0⟩ := Kd.at_int HC1.out (s : Int) (by omega) (by omega)
          cases e1
          have hyr := HW1.out (rd l1 s) (by rw [rd_nat l1 s hsl]; exact List.getElem_mem hsl)
          rw [Int.toNat_natCast] at hy0
          have hx : Hid (stepOf b l1 s = b + rd l1 s % 128) := rfl
          have q2 := pw_cell_below HB.out hy0
          clear hy0
          generalize rd l1 (s : Int) = y at q2 hyr hx
          obtain ⟨hy1', hy2'⟩ := hyr
          have hmk := mask7 y hy1' hy2'
          obtain ⟨k, hk⟩ : ∃ k : Nat, y % 128 = (k : Int) := ⟨(y % 128).toNat, by omega⟩
          have hk1 : k < 128 := by omega
          rw [hk] at hmk
          have hx2 : Hid (stepOf b l1 s = b + (k : Int)) := by rw [hx.out, hk]; rfl
          clear hk hx
          have hnear2 : Hid (∀ x ∈ l2, b ≤ x ∧ x < b + 128) := fun x hx => by
            obtain ⟨i, hi, hi2, rfl⟩ := (HM2.out x).1 hx
            exact hst.out i (by omega)
          have hc := chk_near hb0 hnear2.out (b + (k : Int)) (by omega) (by omega)
          by_cases hmem : b + (k : Int) ∈ l2
          · rw [if_pos hmem] at hc
            have HCK := Lib.hid hc
            have HMM := Lib.hid hmem
            clear hc hmem
            go_wp2_with fail
            refine (mark_list HV.out (b + (k : Int)) (by omega) (by omega)).mono ?_
            rw [HCK.out, if_neg (by omega)]
            rintro e w3 ⟨rfl, h3, o3⟩
            have H3 := Lib.hid h3
            have HW3 := Lib.hid (HW.out.keep (o3.block _ (by omega)))
            have HB3 := Lib.hid (o3.below HB.out (by omega))
            clear h3 o3
            go_wp2
            go_roundw
            case rel =>
              refine ⟨(s : Int) - 1, l2, by omega, by omega, rfl, HW3.out, H3.out, fun x => ?_, HB3.out⟩
              rw [HM2.out]
              constructor
              · rintro ⟨i, hi, hi2, rfl⟩; exact ⟨i, by omega, hi2, rfl⟩
              · rintro ⟨i, hi, hi2, rfl⟩
                by_cases he : i = s
                · subst he
                  exact (HM2.out _).1 (by rw [hx2.out]; exact HMM.out)
                · exact ⟨i, by omega, hi2, rfl⟩
            case measure => simp [intOf] <;> omega
          · rw [if_neg hmem] at hc
            have HCK := Lib.hid hc
            clear hc hmem
            go_wp2_with fail
            refine (mark_list HV.out (b + (k : Int)) (by omega) (by omega)).mono ?_
            rw [HCK.out, if_pos rfl]
            rintro e w3 ⟨rfl, h3, o3⟩
            have H3 := Lib.hid h3
            have HW3 := Lib.hid (HW.out.keep (o3.block _ (by omega)))
            have HB3 := Lib.hid (o3.below HB.out (by omega))
            clear h3 o3
            go_wp2
            go_roundw
            case rel =>
              refine ⟨(s : Int) - 1, l2 ++ [b + (k : Int)], by omega, by omega, rfl, HW3.out, H3.out, fun x => ?_, HB3.out⟩
              rw [List.mem_append, HM2.out, List.mem_singleton]
              constructor
              · rintro (⟨i, hi, hi2, rfl⟩ | rfl)
                · exact ⟨i, by omega, hi2, rfl⟩
                · exact ⟨s, by omega, by omega, hx2.out.symm⟩
              · rintro ⟨i, hi, hi2, rfl⟩
                by_cases he : i = s
                · subst he
                  exact .inr hx2.out
                · exact .inl ⟨i, by omega, hi2, rfl⟩
            case measure => simp [intOf] <;> omega
        · have hsame : ∀ x, x ∈ l2 ↔ x ∈ l := fun x => by
            rw [HM2.out, HM.out]
            have hj := HJ.out
            constructor
            · rintro ⟨i, hi, hi2, rfl⟩; exact ⟨i, by omega, rfl⟩
            · rintro ⟨i, hi, rfl⟩; exact ⟨i, by omega, by omega, rfl⟩
          have h0l : ∀ x ∈ l, 0 ≤ x := fun x hx => (HW.out.rng x hx).1
          have htop := topL_same h0l hsame
          have hchk := chk_same h0l hsame
          have hsome := some_same hsame
          have HT := Lib.hid htop
          have HK := Lib.hid hchk
          have HSm := Lib.hid hsome
          clear htop hchk hsome h0l hsame
          go_wp2_with fail
          refine (top_list HW.out).mono ?_
          rintro e w4 ⟨rfl, d4⟩
          have HB4 := Lib.hid (HB.out.trans (d4.below.mono HB.out.size))
          have HV4 := Lib.hid (HV.out.keep (d4.below.block _ HV.out.lt))
          have HW4 := Lib.hid (HW.out.keep (d4.below.block _ HW.out.lt))
          clear d4 HV HW HB
          go_wp2_with fail
          refine (top_list HV4.out).mono ?_
          rw [HT.out, HSm.out]
          rintro e w5 ⟨rfl, d5⟩
          have HB5 := Lib.hid (HB4.out.trans (d5.below.mono HB4.out.size))
          have HV5 := Lib.hid (HV4.out.keep (d5.below.block _ HV4.out.lt))
          have HW5 := Lib.hid (HW4.out.keep (d5.below.block _ HW4.out.lt))
          clear d5 HV4 HW4 HB4
          go_wp2
          go_loop [19] (fun i => ∃ k : Nat, k ≤ 128 ∧ i = .int .i64 k) (fun i => 128 - (intOf i).toNat)
          case atStart => exact ⟨0, by omega, rfl⟩
          case round =>
            obtain ⟨k, hk, rfl⟩ := hrel
            by_cases hk2 : k < 128
            · go_wp2_with fail
              refine (check_list HW5.out (b + (k : Int)) (by omega) (by omega)).mono ?_
              rintro e w' ⟨rfl, rfl⟩
              go_wp2_with fail
              refine (check_list HV5.out (b + (k : Int)) (by omega) (by omega)).mono ?_
              rw [HK.out]
              rintro e w' ⟨rfl, rfl⟩
              go_wp2
              go_round
              case rel => exact ⟨k + 1, by omega, by go_num⟩
              case measure => simp [intOf] <;> omega
            · go_wp2
              go_ret
              exact ⟨rfl, HB5.out⟩

set_option maxHeartbeats 4000000 in
set_option maxRecDepth 100000 in
theorem near_long (w : World) (a0 : Int) (A1 : Option Addr) (c1 : Nat) (l1 : List Int)
    (b0 : 0 ≤ a0 ∧ a0 ≤ 18446744073709551615) (hC1 : Kd.C (Kd.int .u8) w A1 l1.length l1) (hc1 : l1.length ≤ c1) (hy1 : l1.length * 1 ≤ 140737488351232) (hw1 : ∀ x ∈ l1, 0 ≤ x ∧ x ≤ 255) (hN : 300 < l1.length) :
    Calls Try.prog 4 #[.int .u64 a0, .slice A1 l1.length c1] w fun e w' => e = .returned (.bool true) ∧ Below w.heap.size w w' := by
  obtain ⟨b, hb, hb0, hb1⟩ : ∃ b, bits .and .u64 a0 9223372036854775807 = b ∧ 0 ≤ b ∧ b < 9223372036854775808 := ⟨_, mask63 a0 b0.1 b0.2, by omega, by omega⟩
  have HC1 := Lib.hid hC1
  have HW1 := Lib.hid hw1
  have hst : Hid (∀ i : Nat, i < l1.length → b ≤ stepOf b l1 i ∧ stepOf b l1 i < b + 128) := fun i hi => by
    unfold stepOf
    omega
  have hdec : decide ((300 : Int) < (l1.length : Int)) = true := by simp; omega
  clear hC1 hw1 b0
  go_enter Try.func4, Try.ntmps4
  go_wp2_with fail
  refine (awake_any _).mono ?_
  rintro e w1 ⟨rfl, B1⟩
  have hz := B1.size
  have HB := Lib.hid B1
  clear B1
  have hz38 := zero38
  go_wp2
  clear hz38
  have hbw := WinAt.new w1
  have hbv := WinAt.new (w1.alloc (.cells #[.bool false, .int .u64 0, .int .u64 0, .int .u64 0] 27))
  have hss := SeenAt.new ((w1.alloc (.cells #[.bool false, .int .u64 0, .int .u64 0, .int .u64 0] 27)).alloc (.cells #[.bool false, .int .u64 0, .int .u64 0, .int .u64 0] 27)) b
  have hbb := ((HB.out.alloc hz (.cells #[.bool false, .int .u64 0, .int .u64 0, .int .u64 0] 27)).alloc (by simp; omega) (.cells #[.bool false, .int .u64 0, .int .u64 0, .int .u64 0] 27)).alloc (by simp; omega) (.cells seen0 38)
  have HBW := Lib.hid (hbw.keep (w' := ((w1.alloc (.cells #[.bool false, .int .u64 0, .int .u64 0, .int .u64 0] 27)).alloc (.cells #[.bool false, .int .u64 0, .int .u64 0, .int .u64 0] 27)).alloc (.cells seen0 38)) (by
    rw [Below.heap_alloc _ _ _ (by simp; omega), Below.heap_alloc _ _ _ (by simp)]))
  have HBV := Lib.hid (hbv.keep (w' := ((w1.alloc (.cells #[.bool false, .int .u64 0, .int .u64 0, .int .u64 0] 27)).alloc (.cells #[.bool false, .int .u64 0, .int .u64 0, .int .u64 0] 27)).alloc (.cells seen0 38)) (by
    rw [Below.heap_alloc _ _ _ (by simp)]))
  have hg1 : (w1.alloc (.cells #[.bool false, .int .u64 0, .int .u64 0, .int .u64 0] 27)).heap.size = w1.heap.size + 1 := by simp
  have hg2 : ((w1.alloc (.cells #[.bool false, .int .u64 0, .int .u64 0, .int .u64 0] 27)).alloc (.cells #[.bool false, .int .u64 0, .int .u64 0, .int .u64 0] 27)).heap.size = w1.heap.size + 1 + 1 := by simp
  rw [hg1] at HBV
  rw [hg2] at hss
  have HSS := Lib.hid hss
  have HBB := Lib.hid hbb
  clear hbw hbv hss hbb hg1 hg2 HB
  generalize w1.heap.size = g at *
  go_loopw [10] (fun i wr => ∃ (j : Nat) (l : List Int), j ≤ l1.length ∧ (j : Int) ≤ (300 : Int) ∧ i = .int .i64 j ∧ WinAt wr g l ∧ WinAt wr (g + 1) [] ∧ SeenAt wr (g + 1 + 1) b l ∧ (∀ x, x ∈ l ↔ ∃ i, i < j ∧ x = stepOf b l1 i) ∧ Below w.heap.size w wr) (fun i _ => 300 - (intOf i).toNat)
  case atStart => exact ⟨0, [], by omega, by omega, rfl, HBW.out, HBV.out, HSS.out, by simp, HBB.out⟩
  case round =>
    clear HBW HBV HSS HBB
    obtain ⟨j, l, hj, hj2, rfl, hw, hv, hs, hm, hB⟩ := hrel
    have HW := Lib.hid hw
    have HV := Lib.hid hv
    have HS := Lib.hid hs
    have HM := Lib.hid hm
    have HB := Lib.hid hB
    clear hw hv hs hm hB
    have hnear : Hid (∀ x ∈ l, b ≤ x ∧ x < b + 128) := fun x hx => by
      obtain ⟨i, hi, rfl⟩ := (HM.out x).1 hx
      exact hst.out i (by omega)
    by_cases hlt : (j : Int) < (300 : Int)
    · have hltl : j < l1.length := by omega
      obtain ⟨ad1, e1, hy0⟩ := Kd.at_int HC1.out (j : Int) (by omega) (by omega)
      cases e1
      have hyr := HW1.out (rd l1 j) (by rw [rd_nat l1 j hltl]; exact List.getElem_mem hltl)
      rw [Int.toNat_natCast] at hy0
      have hx : Hid (stepOf b l1 j = b + rd l1 j % 128) := rfl
      have q2 := pw_cell_below HB.out hy0
      clear hy0
      generalize rd l1 (j : Int) = y at q2 hyr hx
      obtain ⟨hy1', hy2'⟩ := hyr
      have hmk := mask7 y hy1' hy2'
      obtain ⟨k, hk⟩ : ∃ k : Nat, y % 128 = (k : Int) := ⟨(y % 128).toNat, by omega⟩
      have hk1 : k < 128 := by omega
      rw [hk] at hmk
      have hx2 : Hid (stepOf b l1 j = b + (k : Int)) := by rw [hx.out, hk]; rfl
      clear hk hx
      have hc := chk_near hb0 hnear.out (b + (k : Int)) (by omega) (by omega)
      obtain ⟨q3, q4⟩ := HS.out.cell k (by omega)
      by_cases hmem : b + (k : Int) ∈ l
      · rw [if_pos hmem] at hc
        have HCK := Lib.hid hc
        have hd1 : decide (b + (k : Int) ∈ l) = true := decide_eq_true hmem
        rw [hd1] at q3
        have HMM := Lib.hid hmem
        clear hc hmem hd1 q3 q4
        go_wp2_with fail
        refine (mark_list HW.out (b + (k : Int)) (by omega) (by omega)).mono ?_
        rw [HCK.out, if_neg (by omega)]
        rintro e w3 ⟨rfl, h3, o3⟩
        have H3 := Lib.hid h3
        have HV3 := Lib.hid (HV.out.keep (o3.block _ (by omega)))
        have HS3 := Lib.hid (HS.out.keep (o3.block _ (by omega)))
        have HB3 := Lib.hid (o3.below HB.out hz)
        have HW3 := Lib.hid o3
        clear h3 o3
        obtain ⟨q3, q4⟩ := HS3.out.cell k (by omega)
        rw [decide_eq_true HMM.out] at q3
        go_wp2
        go_roundw
        case rel =>
          refine ⟨j + 1, l, by omega, by omega, by go_num, H3.out.keep (Below.heap_setCell _ _ _ _ (by dsimp only; omega)), HV3.out.keep (Below.heap_setCell _ _ _ _ (by dsimp only; omega)), HS3.out.put k (by omega) (fun x => ?_), fun x => ?_, HB3.out.setCell (by dsimp only; omega) _⟩
          · exact ⟨.inl, fun h => h.elim id (fun h => by rw [h]; exact HMM.out)⟩
          · rw [HM.out]
            constructor
            · rintro ⟨i, hi, rfl⟩; exact ⟨i, by omega, rfl⟩
            · rintro ⟨i, hi, rfl⟩
              by_cases he : i = j
              · subst he
                exact (HM.out _).1 (by rw [hx2.out]; exact HMM.out)
              · exact ⟨i, by omega, rfl⟩
        case measure => simp [intOf] <;> omega
      · rw [if_neg hmem] at hc
        have HCK := Lib.hid hc
        have hd1 : decide (b + (k : Int) ∈ l) = false := decide_eq_false hmem
        have HMM := Lib.hid hmem
        clear hc hmem hd1 q3 q4
        go_wp2_with fail
        refine (mark_list HW.out (b + (k : Int)) (by omega) (by omega)).mono ?_
        rw [HCK.out, if_pos rfl]
        rintro e w3 ⟨rfl, h3, o3⟩
        have H3 := Lib.hid h3
        have HV3 := Lib.hid (HV.out.keep (o3.block _ (by omega)))
        have HS3 := Lib.hid (HS.out.keep (o3.block _ (by omega)))
        have HB3 := Lib.hid (o3.below HB.out hz)
        have HW3 := Lib.hid o3
        clear h3 o3
        obtain ⟨q3, q4⟩ := HS3.out.cell k (by omega)
        rw [decide_eq_false HMM.out] at q3
        go_wp2
        go_roundw
        case rel =>
          refine ⟨j + 1, l ++ [b + (k : Int)], by omega, by omega, by go_num, H3.out.keep (Below.heap_setCell _ _ _ _ (by dsimp only; omega)), HV3.out.keep (Below.heap_setCell _ _ _ _ (by dsimp only; omega)), HS3.out.put k (by omega) (fun x => ?_), fun x => ?_, HB3.out.setCell (by dsimp only; omega) _⟩
          · simp
          · rw [List.mem_append, HM.out, List.mem_singleton]
            constructor
            · rintro (⟨i, hi, rfl⟩ | rfl)
              · exact ⟨i, by omega, rfl⟩
              · exact ⟨j, by omega, hx2.out.symm⟩
            · rintro ⟨i, hi, rfl⟩
              by_cases he : i = j
              · subst he
                exact .inr hx2.out
              · exact .inl ⟨i, by omega, rfl⟩
        case measure => simp [intOf] <;> omega
    · have hje : (j : Int) = (300 : Int) := by omega
      have HJ := Lib.hid hje
      clear hje
      go_wp2
      go_loopw [14] (fun i wr => ∃ (q : Int) (l2 : List Int), -1 ≤ q ∧ q ≤ (300 : Int) - 1 ∧ i = .int .i64 q ∧ WinAt wr g l ∧ WinAt wr (g + 1) l2 ∧ (∀ x, x ∈ l2 ↔ ∃ i : Nat, q < (i : Int) ∧ (i : Int) < (300 : Int) ∧ x = stepOf b l1 i) ∧ Below w.heap.size w wr) (fun i _ => (intOf i + 1).toNat)
      case atStart => exact ⟨_, [], by omega, by omega, rfl, HW.out, HV.out, fun x => ⟨(fun h => by cases h), (by rintro ⟨i, h1, h2, _⟩; omega)⟩, HB.out⟩
      case round =>
        clear HW HV HS HB
        obtain ⟨q, l2, hq1, hq2, rfl, hw, hv, hm2, hB⟩ := hrel
        have HW := Lib.hid hw
        have HV := Lib.hid hv
        have HM2 := Lib.hid hm2
        have HB := Lib.hid hB
        clear hw hv hm2 hB
        by_cases hq0 : 0 ≤ q
        · obtain ⟨s, rfl⟩ := Int.eq_ofNat_of_zero_le hq0
          have hsl : s < l1.length := by omega
          obtain ⟨ad1, e1, hy0⟩ := Kd.at_int HC1.out (s : Int) (by omega) (by omega)
          cases e1
          have hyr := HW1.out (rd l1 s) (by rw [rd_nat l1 s hsl]; exact List.getElem_mem hsl)
          rw [Int.toNat_natCast] at hy0
          have hx : Hid (stepOf b l1 s = b + rd l1 s % 128) := rfl
          have q2 := pw_cell_below HB.out hy0
          clear hy0
          generalize rd l1 (s : Int) = y at q2 hyr hx
          obtain ⟨hy1', hy2'⟩ := hyr
          have hmk := mask7 y hy1' hy2'
          obtain ⟨k, hk⟩ : ∃ k : Nat, y % 128 = (k : Int) := ⟨(y % 128).toNat, by omega⟩
          have hk1 : k < 128 := by omega
          rw [hk] at hmk
          have hx2 : Hid (stepOf b l1 s = b + (k : Int)) := by rw [hx.out, hk]; rfl
          clear hk hx
          have hnear2 : Hid (∀ x ∈ l2, b ≤ x ∧ x < b + 128) := fun x hx => by
            obtain ⟨i, hi, hi2, rfl⟩ := (HM2.out x).1 hx
            exact hst.out i (by omega)
          have hc := chk_near hb0 hnear2.out (b + (k : Int)) (by omega) (by omega)
          by_cases hmem : b + (k : Int) ∈ l2
          · rw [if_pos hmem] at hc
            have HCK := Lib.hid hc
            have HMM := Lib.hid hmem
            clear hc hmem
            go_wp2_with fail
            refine (mark_list HV.out (b + (k : Int)) (by omega) (by omega)).mono ?_
            rw [HCK.out, if_neg (by omega)]
            rintro e w3 ⟨rfl, h3, o3⟩
            have H3 := Lib.hid h3
            have HW3 := Lib.hid (HW.out.keep (o3.block _ (by omega)))
            have HB3 := Lib.hid (o3.below HB.out (by omega))
            clear h3 o3
            go_wp2
            go_roundw
            case rel =>
              refine ⟨(s : Int) - 1, l2, by omega, by omega, rfl, HW3.out, H3.out, fun x => ?_, HB3.out⟩
              rw [HM2.out]
              constructor
              · rintro ⟨i, hi, hi2, rfl⟩; exact ⟨i, by omega, hi2, rfl⟩
              · rintro ⟨i, hi, hi2, rfl⟩
                by_cases he : i = s
                · subst he
                  exact (HM2.out _).1 (by rw [hx2.out]; exact HMM.out)
                · exact ⟨i, by omega, hi2, rfl⟩
            case measure => simp [intOf] <;> omega
          · rw [if_neg hmem] at hc
            have HCK := Lib.hid hc
            clear hc hmem
            go_wp2_with fail
            refine (mark_list HV.out (b + (k : Int)) (by omega) (by omega)).mono ?_
            rw [HCK.out, if_pos rfl]
            rintro e w3 ⟨rfl, h3, o3⟩
            have H3 := Lib.hid h3
            have HW3 := Lib.hid (HW.out.keep (o3.block _ (by omega)))
            have HB3 := Lib.hid (o3.below HB.out (by omega))
            clear h3 o3
            go_wp2
            go_roundw
            case rel =>
              refine ⟨(s : Int) - 1, l2 ++ [b + (k : Int)], by omega, by omega, rfl, HW3.out, H3.out, fun x => ?_, HB3.out⟩
              rw [List.mem_append, HM2.out, List.mem_singleton]
              constructor
              · rintro (⟨i, hi, hi2, rfl⟩ | rfl)
                · exact ⟨i, by omega, hi2, rfl⟩
                · exact ⟨s, by omega, by omega, hx2.out.symm⟩
              · rintro ⟨i, hi, hi2, rfl⟩
                by_cases he : i = s
                · subst he
                  exact .inr hx2.out
                · exact .inl ⟨i, by omega, hi2, rfl⟩
            case measure => simp [intOf] <;> omega
        · have hsame : ∀ x, x ∈ l2 ↔ x ∈ l := fun x => by
            rw [HM2.out, HM.out]
            have hj := HJ.out
            constructor
            · rintro ⟨i, hi, hi2, rfl⟩; exact ⟨i, by omega, rfl⟩
            · rintro ⟨i, hi, rfl⟩; exact ⟨i, by omega, by omega, rfl⟩
          have h0l : ∀ x ∈ l, 0 ≤ x := fun x hx => (HW.out.rng x hx).1
          have htop := topL_same h0l hsame
          have hchk := chk_same h0l hsame
          have hsome := some_same hsame
          have HT := Lib.hid htop
          have HK := Lib.hid hchk
          have HSm := Lib.hid hsome
          clear htop hchk hsome h0l hsame
          go_wp2_with fail
          refine (top_list HW.out).mono ?_
          rintro e w4 ⟨rfl, d4⟩
          have HB4 := Lib.hid (HB.out.trans (d4.below.mono HB.out.size))
          have HV4 := Lib.hid (HV.out.keep (d4.below.block _ HV.out.lt))
          have HW4 := Lib.hid (HW.out.keep (d4.below.block _ HW.out.lt))
          clear d4 HV HW HB
          go_wp2_with fail
          refine (top_list HV4.out).mono ?_
          rw [HT.out, HSm.out]
          rintro e w5 ⟨rfl, d5⟩
          have HB5 := Lib.hid (HB4.out.trans (d5.below.mono HB4.out.size))
          have HV5 := Lib.hid (HV4.out.keep (d5.below.block _ HV4.out.lt))
          have HW5 := Lib.hid (HW4.out.keep (d5.below.block _ HW4.out.lt))
          clear d5 HV4 HW4 HB4
          go_wp2
          go_loop [19] (fun i => ∃ k : Nat, k ≤ 128 ∧ i = .int .i64 k) (fun i => 128 - (intOf i).toNat)
          case atStart => exact ⟨0, by omega, rfl⟩
          case round =>
            obtain ⟨k, hk, rfl⟩ := hrel
            by_cases hk2 : k < 128
            · go_wp2_with fail
              refine (check_list HW5.out (b + (k : Int)) (by omega) (by omega)).mono ?_
              rintro e w' ⟨rfl, rfl⟩
              go_wp2_with fail
              refine (check_list HV5.out (b + (k : Int)) (by omega) (by omega)).mono ?_
              rw [HK.out]
              rintro e w' ⟨rfl, rfl⟩
              go_wp2
              go_round
              case rel => exact ⟨k + 1, by omega, by go_num⟩
              case measure => simp [intOf] <;> omega
            · go_wp2
              go_ret
              exact ⟨rfl, HB5.out⟩

theorem near_walk (w : World) (a0 : Int) (A1 : Option Addr) (c1 : Nat) (l1 : List Int)
    (b0 : 0 ≤ a0 ∧ a0 ≤ 18446744073709551615) (hC1 : Kd.C (Kd.int .u8) w A1 l1.length l1) (hc1 : l1.length ≤ c1) (hy1 : l1.length * 1 ≤ 140737488351232) (hw1 : ∀ x ∈ l1, 0 ≤ x ∧ x ≤ 255) :
    Calls Try.prog 4 #[.int .u64 a0, .slice A1 l1.length c1] w fun e w' => e = .returned (.bool true) ∧ Below w.heap.size w w' := by
  by_cases h : l1.length ≤ 300
  · exact near_short w a0 A1 c1 l1 b0 hC1 hc1 hy1 hw1 h
  · exact near_long w a0 A1 c1 l1 b0 hC1 hc1 hy1 hw1 (by omega)

end Go.Proofs.Ytkcjgkfgjbhfnaa
