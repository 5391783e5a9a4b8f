import Derived.Test.YtfklojheogidpaaSwap
import Derived.Deep.Cut
set_option linter.unusedVariables false
namespace Go.Proofs.Ytfklojheogidpaa
open Go.RowKit Go.Proofs.YtfklojheogidpaaW.PrintWords

def PP : Int := 57896044618658097711785492504343953926634992332820282019728792003956564819949
def HH : Int := 57896044618658097711785492504343953926634992332820282019728792003956564819968
def rs (v : Int) : Nat → Int
  | 0 => v % HH + 19 * (v / HH)
  | r + 1 => if (rs v r + 19) / HH = 1 then (rs v r + 19) % HH else rs v r
theorem rs_step (y : Int) (h0 : 0 ≤ y) (h1 : y ≤ HH + 18) : (if (y + 19) / HH = 1 then (y + 19) % HH else y) = if PP ≤ y then y - PP else y := by
  unfold HH PP at *
  by_cases h : (y + 19) / 57896044618658097711785492504343953926634992332820282019728792003956564819968 = 1
  · rw [if_pos h, if_pos (by omega)]; omega
  · rw [if_neg h, if_neg (by omega)]
theorem rs_ok (v : Int) (h0 : 0 ≤ v) (h1 : v < BB) (r : Nat) (hr : r ≤ 2) : 0 ≤ rs v r ∧ rs v r ≤ HH + 18 ∧ (r = 2 → rs v r = v % PP) := by
  unfold BB at h1
  have k0 : 0 ≤ rs v 0 ∧ rs v 0 ≤ HH + 18 ∧ (rs v 0) % PP = v % PP := by simp only [rs]; unfold HH PP; omega
  have e1 : rs v 1 = if PP ≤ rs v 0 then rs v 0 - PP else rs v 0 := rs_step _ k0.1 k0.2.1
  have k1 : 0 ≤ rs v 1 ∧ rs v 1 < PP ∧ (rs v 1) % PP = v % PP := by
    rw [e1]
    generalize rs v 0 = y at *
    unfold HH PP at *
    by_cases h : 57896044618658097711785492504343953926634992332820282019728792003956564819949 ≤ y
    · rw [if_pos h]; omega
    · rw [if_neg h]; omega
  have e2 : rs v 2 = if PP ≤ rs v 1 then rs v 1 - PP else rs v 1 := rs_step _ k1.1 (Int.le_trans (Int.le_of_lt k1.2.1) (by unfold PP HH; omega))
  have k2 : rs v 2 = v % PP := by
    rw [e2, if_neg (by omega), ← k1.2.2, Int.emod_eq_of_lt k1.1 k1.2.1]
  match r, hr with
  | 0, _ => exact ⟨k0.1, k0.2.1, fun h => by omega⟩
  | 1, _ => exact ⟨k1.1, Int.le_trans (Int.le_of_lt k1.2.1) (by unfold PP HH; omega), fun h => by omega⟩
  | 2, _ => exact ⟨by rw [k2]; unfold PP; omega, by rw [k2]; unfold PP HH; omega, fun _ => k2⟩
theorem lim_low (y : Int) (h0 : 0 ≤ y) (h1 : y < BB) : (lim y).set 3 ((lim y).getD 3 0 % 9223372036854775808) = lim (y % HH) ∧ (lim y).getD 3 0 / 9223372036854775808 = y / HH := by
  unfold BB at h1
  simp only [lim, List.set_cons_succ, List.set_cons_zero, List.getD_cons_succ, List.getD_cons_zero, List.cons.injEq, and_true]
  unfold HH
  refine ⟨⟨?_, ?_, ?_, ?_⟩, ?_⟩ <;> omega
theorem mask63 (x : Int) (h : Word x) : bits .and .u64 x 9223372036854775807 = x % 9223372036854775808 :=
  bits_mask .u64 64 (by decide) (fun n h0 h1 => IntWalk.u64_in n ⟨h0, by omega⟩) 63 (by decide) x h.1 (by have := h.2; omega)

set_option maxHeartbeats 2000000 in
theorem rest_any (v : Int) (hv0 : 0 ≤ v) (hv1 : v < BB) (w : World) :
    Calls Try.prog 58 #[.agg (E v)] w fun e w' => e = .returned (.agg (E (v % PP))) ∧ Below w.heap.size w w' := by
  have HOK := Lib.hid (rs_ok v hv0 hv1)
  obtain ⟨hl1, hl2⟩ := lim_low v hv0 hv1
  have hw3 := (Four.lim v).get 3
  have hm := mask63 _ hw3
  obtain ⟨X, hX⟩ : ∃ X, (lim v).getD 3 0 = X := ⟨_, rfl⟩
  rw [hX] at hl1 hl2 hw3 hm
  have HX := Lib.hid hX
  obtain ⟨T, hT⟩ : ∃ T, X % 9223372036854775808 = T := ⟨_, rfl⟩
  obtain ⟨O, hO⟩ : ∃ O, X / 9223372036854775808 = O := ⟨_, rfl⟩
  rw [hT] at hl1 hm
  rw [hO] at hl2
  have hO2 : O = 0 ∨ O = 1 := by have := hw3.1; have := hw3.2; omega
  have hO0 : 0 ≤ O := by omega
  have hO1 : O ≤ 1 := by omega
  have hcar : carV (v % HH) (19 * O) = rs v 0 := by
    rw [hl2]
    simp only [rs]
    unfold carV HH BB at *
    rw [if_pos (by omega)]
  have HL1 := Lib.hid hl1
  have HCAR := Lib.hid hcar
  have hvr : Hid (0 ≤ v % HH ∧ v % HH < BB) := by unfold HH BB at *; exact ⟨by omega, by omega⟩
  have HF := Lib.hid (Four.lim v)
  clear hl1 hl2 hw3 hX hT hv0 hv1 hcar hO2
  go_enter Try.func58, Try.ntmps58
  go_upto_region 0 with fail
  go_cut [1, 2] (fun s1 s2 wx => s1 = .pointer (some ⟨w.heap.size, 0, none⟩) ∧ s2 = .pointer (some ⟨w.heap.size + 1, 0, none⟩) ∧ wx.heap[w.heap.size]? = some (.cells (Ls (lim v)) 27 (0, 0)) ∧ wx.heap[w.heap.size + 1]? = some (.cells (Ls [0, 0, 0, 0]) 27 (0, 0)) ∧ Below w.heap.size w wx)
  case first =>
    go_wp2_with fail
    go_meet
    exact ⟨rfl, rfl, heap_alloc2_old w _ _, heap_alloc2_new w _ _, ((Below.refl w.heap.size w).alloc (Nat.le_refl _) _).alloc (by simp) _⟩
  case rest =>
    obtain ⟨rfl, rfl, hb0, hb1, hB⟩ := hcut
    have q3 := ls_cell hb0 3 (by rw [lim_length]; omega)
    rw [HX.out] at q3
    have f3 := blk_frozen hb0 3
    have HB0 := Lib.hid hb0
    have HB1 := Lib.hid hb1
    have HB := Lib.hid hB
    clear hb0 hb1 hB
    have hs0 := ls_set HB0.out 3 T
    rw [HL1.out] at hs0
    have HS0 := Lib.hid hs0
    have HS1 := Lib.hid (blk_far (p := ⟨w.heap.size, 3, none⟩) HB1.out (by dsimp only; omega) (.int .u64 T))
    have HSB := Lib.hid (HB.out.setCell (p := ⟨w.heap.size, 3, none⟩) (Nat.le_refl _) (.int .u64 T))
    clear hs0
    go_wp2_with (refine load27 rfl _ rfl w.heap.size (lim (v % HH)) rfl HS0.out rfl ?_)
    refine (carried_any (v % HH) (19 * O) hvr.out.1 hvr.out.2 ⟨by omega, by omega⟩ _).mono ?_
    rw [HCAR.out]
    rintro e w2 ⟨rfl, b2⟩
    have HC0 := Lib.hid ((b2.block _ (blk_lt HS0.out)).trans HS0.out)
    have HC1 := Lib.hid ((b2.block _ (blk_lt HS1.out)).trans HS1.out)
    have HCB := Lib.hid (HSB.out.trans (b2.mono HSB.out.size))
    clear b2 HB0 HB1 HB HS0 HS1 HSB q3 f3
    go_wp2_with (refine store27 rfl _ _ rfl w.heap.size (lim (rs v 0)) (lim (v % HH)) rfl rfl HC0.out rfl rfl ?_)
    have HD0 := Lib.hid (ls_row (cs := Ls (lim (rs v 0))) HC0.out)
    have HD1 := Lib.hid (blk_row (g := w.heap.size) (cs := Ls (lim (rs v 0))) HC1.out (by omega))
    have HDB := Lib.hid (below_setRow HCB.out (Nat.le_refl _) (Ls (lim (rs v 0))))
    clear HC0 HC1 HCB
    go_loopw [17] (fun s17 wr => ∃ r : Nat, r ≤ 2 ∧ s17 = .int .i64 r ∧ wr.heap[w.heap.size]? = some (.cells (Ls (lim (rs v r))) 27 (0, 0)) ∧ wr.heap[w.heap.size + 1]? = some (.cells (Ls [0, 0, 0, 0]) 27 (0, 0)) ∧ Below w.heap.size w wr) (fun s17 _ => 2 - (intOf s17).toNat)
    case atStart => exact ⟨0, by omega, rfl, HD0.out, HD1.out, HDB.out⟩
    case round =>
      clear HD0 HD1 HDB
      obtain ⟨r, hr, rfl, hb0, hb1, hB⟩ := hrel
      have HB0 := Lib.hid hb0
      have HB1 := Lib.hid hb1
      have HB := Lib.hid hB
      clear hb0 hb1 hB
      by_cases hr2 : r < 2
      · have hok := HOK.out r hr
        have hnext : Hid (rs v (r + 1) = if (rs v r + 19) / HH = 1 then (rs v r + 19) % HH else rs v r) := rfl
        generalize rs v r = y at *
        obtain ⟨hy0, hy1, _⟩ := hok
        have hc : carV y 19 = y + 19 := by unfold carV BB HH at *; rw [if_pos (by omega)]
        have hyb : 0 ≤ y + 19 ∧ y + 19 < BB ∧ y < BB := by unfold BB HH at *; omega
        obtain ⟨hl1, hl2⟩ := lim_low (y + 19) hyb.1 hyb.2.1
        have hw3 := (Four.lim (y + 19)).get 3
        have hm := mask63 _ hw3
        obtain ⟨X2, hX⟩ : ∃ X, (lim (y + 19)).getD 3 0 = X := ⟨_, rfl⟩
        rw [hX] at hl1 hl2 hw3 hm
        have HX2 := Lib.hid hX
        obtain ⟨T2, hT⟩ : ∃ T, X2 % 9223372036854775808 = T := ⟨_, rfl⟩
        obtain ⟨O2, hO⟩ : ∃ O, X2 / 9223372036854775808 = O := ⟨_, rfl⟩
        rw [hT] at hl1 hm
        rw [hO] at hl2
        have hO2 : O2 = 0 ∨ O2 = 1 := by have := hw3.1; have := hw3.2; omega
        have hO0 : 0 ≤ O2 := by omega
        have hO1 : O2 ≤ 1 := by omega
        have HL12 := Lib.hid hl1
        have HL22 := Lib.hid hl2
        have HCY := Lib.hid hc
        have HO2 := Lib.hid hO2
        have HY := Lib.hid (And.intro hy0 (And.intro hy1 hyb))
        clear hl1 hl2 hw3 hX hT hc hO2 hyb hy0 hy1
        go_wp2_with (refine load27 rfl _ rfl w.heap.size (lim y) rfl HB0.out rfl ?_)
        refine (carried_any y 19 HY.out.1 HY.out.2.2.2.2 ⟨by omega, by omega⟩ _).mono ?_
        rw [HCY.out]
        rintro e w3 ⟨rfl, b3⟩
        have HC0 := Lib.hid ((b3.block _ (blk_lt HB0.out)).trans HB0.out)
        have HC1 := Lib.hid ((b3.block _ (blk_lt HB1.out)).trans HB1.out)
        have HCB := Lib.hid (HB.out.trans (b3.mono HB.out.size))
        have hsz := HCB.out.size
        have hne0 := Nat.ne_of_lt (blk_lt HC0.out)
        have hne1 := Nat.ne_of_lt (blk_lt HC1.out)
        clear b3 HB0 HB1 HB
        have kk : Hid (∀ W4, W4 = (w3.alloc (.cells #[.int .u64 0, .int .u64 0, .int .u64 0, .int .u64 0] 27)).setRow w3.heap.size (Ls (lim (y + 19))) →
            W4.heap[w.heap.size]? = some (.cells (Ls (lim y)) 27 (0, 0)) ∧ W4.heap[w.heap.size + 1]? = some (.cells (Ls [0, 0, 0, 0]) 27 (0, 0)) ∧ W4.heap[w3.heap.size]? = some (.cells (Ls (lim (y + 19))) 27 (0, 0)) ∧ Below w.heap.size w W4) := by
          rintro W4 rfl
          refine ⟨blk_row ((Below.heap_alloc w3 _ _ (by omega)).trans HC0.out) hne0, blk_row ((Below.heap_alloc w3 _ _ (by omega)).trans HC1.out) hne1, ls_row (heap_alloc_new w3 _), below_setRow (HCB.out.alloc hsz _) hsz _⟩
        go_wp2_with (first | (refine load27 rfl _ rfl w.heap.size (lim y) rfl (blk_far (p := ⟨w3.heap.size, 3, none⟩) K0.out hne0 _) rfl ?_) | (refine load27 rfl _ rfl w3.heap.size (lim ((y + 19) % HH)) rfl (by have h := ls_set K4.out 3 T2; rw [HL12.out] at h; exact h) rfl ?_) | (refine store27 rfl _ _ rfl w3.heap.size (lim (y + 19)) [0, 0, 0, 0] rfl rfl (heap_alloc_new w3 _) rfl rfl ?_; obtain ⟨W4, hW4⟩ : ∃ W4, W4 = (w3.alloc (.cells #[.int .u64 0, .int .u64 0, .int .u64 0, .int .u64 0] 27)).setRow w3.heap.size (Ls (lim (y + 19))) := ⟨_, rfl⟩; rw [← hW4]; obtain ⟨k0, k1, k4, kB⟩ := kk.out W4 hW4; have K0 := Lib.hid k0; have K1 := Lib.hid k1; have K4 := Lib.hid k4; have KB := Lib.hid kB; have q4 := (ls_cell k4 3 (by rw [lim_length]; omega)).trans (by rw [HX2.out]); have f4 := blk_frozen k4 3; clear hW4 k0 k1 k4 kB))
        have HL0 := Lib.hid (blk_far (p := ⟨w3.heap.size, 3, none⟩) K0.out hne0 (.int .u64 T2))
        have HL1' := Lib.hid (blk_far (p := ⟨w3.heap.size, 3, none⟩) K1.out hne1 (.int .u64 T2))
        have HLB := Lib.hid (KB.out.setCell (p := ⟨w3.heap.size, 3, none⟩) hsz (.int .u64 T2))
        clear K0 K1 K4 KB q4 f4 hne0 hne1 kk
        rcases HO2.out with h | h
        · subst h
          refine (swap_off 0 (by omega) y ((y + 19) % HH) _).mono ?_
          rintro e w6 ⟨rfl, b6⟩
          have HM0 := Lib.hid ((b6.block _ (blk_lt HL0.out)).trans HL0.out)
          have HM1 := Lib.hid ((b6.block _ (blk_lt HL1'.out)).trans HL1'.out)
          have HMB := Lib.hid (HLB.out.trans (b6.mono HLB.out.size))
          clear b6 HL0 HL1' HLB
          go_wp2_with (refine store27 rfl _ _ rfl w.heap.size (lim y) (lim y) rfl rfl HM0.out rfl rfl ?_)
          go_roundw
          case rel =>
            refine ⟨r + 1, by omega, by go_num, ?_, blk_row HM1.out (by omega), below_setRow HMB.out (Nat.le_refl _) _⟩
            rw [hnext.out, ← HL22.out]
            exact ls_row HM0.out
          case measure => simp [intOf] <;> omega
        · subst h
          refine (swap_on y ((y + 19) % HH) _).mono ?_
          rintro e w6 ⟨rfl, b6⟩
          have HM0 := Lib.hid ((b6.block _ (blk_lt HL0.out)).trans HL0.out)
          have HM1 := Lib.hid ((b6.block _ (blk_lt HL1'.out)).trans HL1'.out)
          have HMB := Lib.hid (HLB.out.trans (b6.mono HLB.out.size))
          clear b6 HL0 HL1' HLB
          go_wp2_with (refine store27 rfl _ _ rfl w.heap.size (lim ((y + 19) % HH)) (lim y) rfl rfl HM0.out rfl rfl ?_)
          go_roundw
          case rel =>
            refine ⟨r + 1, by omega, by go_num, ?_, blk_row HM1.out (by omega), below_setRow HMB.out (Nat.le_refl _) _⟩
            rw [hnext.out, ← HL22.out]
            exact ls_row HM0.out
          case measure => simp [intOf] <;> omega
      · obtain rfl : r = 2 := by omega
        have hfin := (HOK.out 2 (by omega)).2.2 rfl
        rw [hfin] at HB0
        clear hfin
        go_wp2_with (first | (refine load27 rfl _ rfl w.heap.size (lim (v % PP)) rfl HB0.out rfl ?_) | (refine store27 rfl _ _ rfl (w.heap.size + 1) (lim (v % PP)) [0, 0, 0, 0] rfl rfl HB1.out rfl rfl ?_))
        refine ret27 rfl (w.heap.size + 1) (lim (v % PP)) rfl (ls_row HB1.out) rfl rfl ?_
        exact ⟨rfl, below_setRow HB.out (by omega) _⟩

end Go.Proofs.Ytfklojheogidpaa
