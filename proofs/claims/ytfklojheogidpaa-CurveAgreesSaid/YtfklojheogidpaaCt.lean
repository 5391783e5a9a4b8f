import Derived.Test.YtfklojheogidpaaCm
set_option linter.unusedVariables false
set_option linter.unusedSimpArgs false
namespace Go.Proofs.Ytfklojheogidpaa
open Go.RowKit Go.Proofs.YtfklojheogidpaaW.PrintWords Go.Proofs.YtfklojheogidpaaW.PrintLast Go.Proofs.YtfklojheogidpaaW.PrintMore

/-- Two numbers, turned round by a bit. -/
def sw (b : Bool) (v u : Int) : Int × Int := if b = true then (u, v) else (v, u)
theorem swap_any (bit : Int) (b : Bool) (hb : b = (bit == 1)) (v u : Int) (w : World) :
    Calls Try.prog 37 #[.int .i64 bit, .agg (Ls (lim v)), .agg (Ls (lim u))] w fun e w' => e = .returned (.tuple #[.agg (Ls (lim (sw b v u).1)), .agg (Ls (lim (sw b v u).2))]) ∧ Below w.heap.size w w' := by
  by_cases h : bit = 1
  · subst h hb
    exact swap_on v u w
  · have e : b = false := by rw [hb]; simpa using h
    subst e
    exact swap_off bit h v u w
set_option maxHeartbeats 4000000 in
theorem turned_any (bit : Int) (b : Bool) (hb : b = (bit == 1)) (x z s t : Int) (w : World) :
    Calls Try.prog 60 #[.agg (Ls (Q4 x z s t)), .int .i64 bit] w fun e w' => e = .returned (.agg (Ls (Q4 (sw b x s).1 (sw b z t).1 (sw b x s).2 (sw b z t).2))) ∧ Below w.heap.size w w' := by
  have KS : Hid (∀ v u w', Calls Try.prog 37 #[.int .i64 bit, .agg (Ls (lim v)), .agg (Ls (lim u))] w' fun e w2 => e = .returned (.tuple #[.agg (Ls (lim (sw b v u).1)), .agg (Ls (lim (sw b v u).2))]) ∧ Below w'.heap.size w' w2) := fun v u w' => swap_any bit b hb v u w'
  clear hb
  obtain ⟨x', hx'⟩ : ∃ y, (sw b x s).1 = y := ⟨_, rfl⟩
  obtain ⟨s', hs'⟩ : ∃ y, (sw b x s).2 = y := ⟨_, rfl⟩
  obtain ⟨z', hz'⟩ : ∃ y, (sw b z t).1 = y := ⟨_, rfl⟩
  obtain ⟨t', ht'⟩ : ∃ y, (sw b z t).2 = y := ⟨_, rfl⟩
  have K1 := Lib.hid (KS.out x s)
  have K2 := Lib.hid (KS.out z t)
  rw [hx', hs'] at K1
  rw [hz', ht'] at K2
  rw [hx', hs', hz', ht']
  clear KS hx' hs' hz' ht'
  unfold Q4
  have L1 := lim_length x; have L2 := lim_length z; have L3 := lim_length s; have L4 := lim_length t
  have M1 := lim_length x'; have M2 := lim_length z'; have M3 := lim_length s'; have M4 := lim_length t'
  generalize lim x = a at *
  generalize lim z = c at *
  generalize lim s = d at *
  generalize lim t = f at *
  generalize lim x' = a' at *
  generalize lim z' = c' at *
  generalize lim s' = d' at *
  generalize lim t' = f' at *
  have h0 := heap_alloc2_old w (.cells (Ls (P4 a c d f)) 76) (.cells Z16 76)
  have h1 := heap_alloc2_new w (.cells (Ls (P4 a c d f)) 76) (.cells Z16 76)
  have hB : Below w.heap.size w ((w.alloc (.cells (Ls (P4 a c d f)) 76)).alloc (.cells Z16 76)) := ((Below.refl _ _).alloc (Nat.le_refl _) _).alloc (by simp) _
  obtain ⟨w1, hw1⟩ : ∃ y, (w.alloc (.cells (Ls (P4 a c d f)) 76)).alloc (.cells Z16 76) = y := ⟨_, rfl⟩
  rw [hw1] at h0 h1 hB
  have H0 := Lib.hid h0
  have H1 := Lib.hid h1
  have HB := Lib.hid hB
  have HW := Lib.hid hw1
  clear h0 h1 hB hw1
  go_enter Try.func60, Try.ntmps60
  go_upto_region 1 with fail
  rw [HW.out]
  clear HW
  go_wp2_with (first | (refine loadM rfl _ rfl w.heap.size 0 76 _ a rfl H0.out L1 (P4_0 L1 L2 L3 L4) ?_) | (refine loadM rfl _ rfl w.heap.size 8 76 _ d rfl H0.out L3 (P4_8 L1 L2 L3 L4) ?_))
  with_reducible refine (K1.out _).mono ?_
  rintro e w2 ⟨rfl, hb⟩
  have H02 := Lib.hid ((hb.block _ (blk_lt H0.out)).trans H0.out)
  have H12 := Lib.hid ((hb.block _ (blk_lt H1.out)).trans H1.out)
  have HB2 := Lib.hid (HB.out.trans (hb.mono HB.out.size))
  clear hb H0 H1 HB
  have H03 : Hid ((w2.setRow w.heap.size (Ls (P4 a' c d f))).heap[w.heap.size]? = some (.cells (Ls (P4 a' c d f)) 76 (0, 0))) := ls_row H02.out
  have H04 : Hid (((w2.setRow w.heap.size (Ls (P4 a' c d f))).setRow w.heap.size (Ls (P4 a' c d' f))).heap[w.heap.size]? = some (.cells (Ls (P4 a' c d' f)) 76 (0, 0))) := ls_row H03.out
  have Q1 := P4_length M1 L2 L3 L4
  have Q2 := P4_length L1 L2 L3 L4
  have Q3 := P4_length M1 L2 M3 L4
  go_upto_region 2 with (first | (refine storeM rfl _ _ rfl w.heap.size 0 76 _ a' _ rfl rfl H02.out M1 (by omega) (P4_s0 L1 L2 L3 L4 a') ?_) | (refine storeM rfl _ _ rfl w.heap.size 8 76 _ d' _ rfl rfl H03.out M3 (by omega) (P4_s8 M1 L2 L3 L4 d') ?_))
  clear K1
  generalize hw3 : (w2.setRow w.heap.size (Ls (P4 a' c d f))).setRow w.heap.size (Ls (P4 a' c d' f)) = w3 at *
  have H13 : Hid (w3.heap[w.heap.size + 1]? = some (.cells Z16 76 (0, 0))) := by rw [← hw3]; exact blk_row (blk_row H12.out (by omega)) (by omega)
  have HB3 : Hid (Below w.heap.size w w3) := by rw [← hw3]; exact below_setRow (below_setRow HB2.out (Nat.le_refl _) _) (Nat.le_refl _) _
  clear hw3 H02 H03 H12 HB2
  go_wp2_with (first | (refine loadM rfl _ rfl w.heap.size 4 76 _ c rfl H04.out L2 (P4_4 M1 L2 M3 L4) ?_) | (refine loadM rfl _ rfl w.heap.size 12 76 _ f rfl H04.out L4 (P4_12 M1 L2 M3 L4) ?_))
  with_reducible refine (K2.out _).mono ?_
  rintro e w4 ⟨rfl, hb⟩
  have G0 := Lib.hid ((hb.block _ (blk_lt H04.out)).trans H04.out)
  have G1 := Lib.hid ((hb.block _ (blk_lt H13.out)).trans H13.out)
  have GB := Lib.hid (HB3.out.trans (hb.mono HB3.out.size))
  clear hb H04 H13 HB3 K2
  have G2 : Hid ((w4.setRow w.heap.size (Ls (P4 a' c' d' f))).heap[w.heap.size]? = some (.cells (Ls (P4 a' c' d' f)) 76 (0, 0))) := ls_row G0.out
  have G3 : Hid (((w4.setRow w.heap.size (Ls (P4 a' c' d' f))).setRow w.heap.size (Ls (P4 a' c' d' f'))).heap[w.heap.size]? = some (.cells (Ls (P4 a' c' d' f')) 76 (0, 0))) := ls_row G2.out
  have Q4 := P4_length M1 M2 M3 L4
  have Q5 := P4_length M1 M2 M3 M4
  go_upto_region 3 with (first | (refine storeM rfl _ _ rfl w.heap.size 4 76 _ c' _ rfl rfl G0.out M2 (by omega) (P4_s4 M1 L2 M3 L4 c') ?_) | (refine storeM rfl _ _ rfl w.heap.size 12 76 _ f' _ rfl rfl G2.out M4 (by omega) (P4_s12 M1 M2 M3 L4 f') ?_))
  generalize hw5 : (w4.setRow w.heap.size (Ls (P4 a' c' d' f))).setRow w.heap.size (Ls (P4 a' c' d' f')) = w5 at *
  have G4 : Hid (w5.heap[w.heap.size + 1]? = some (.cells Z16 76 (0, 0))) := by rw [← hw5]; exact blk_row (blk_row G1.out (by omega)) (by omega)
  have GB5 : Hid (Below w.heap.size w w5) := by rw [← hw5]; exact below_setRow (below_setRow GB.out (Nat.le_refl _) _) (Nat.le_refl _) _
  clear hw5 G0 G1 G2 GB
  go_wp2_with (first | (refine load76 rfl _ rfl w.heap.size (P4 a' c' d' f') rfl G3.out Q5 ?_) | (refine store76 rfl _ _ rfl (w.heap.size + 1) (P4 a' c' d' f') (Go.Proofs.Ytfklojheogidpaa.Q4 0 0 0 0) rfl rfl G4.out rfl Q5 ?_))
  refine ret76 rfl (w.heap.size + 1) (P4 a' c' d' f') rfl (ls_row G4.out) Q5 rfl ⟨rfl, ?_⟩
  exact below_setRow GB5.out (by omega) _
end Go.Proofs.Ytfklojheogidpaa
