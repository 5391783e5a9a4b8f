import Derived.Test.YtfklojheogidpaaAdd
import Derived.Laws.MathBits
set_option linter.unusedVariables false
namespace Go.Proofs.Ytfklojheogidpaa
open Go.RowKit Go.Proofs.YtfklojheogidpaaW.PrintWords

/-- What is taken off in Sub's second part. -/
def su (v c : Int) : Nat → Int × Int
  | 0 => (v, c)
  | r + 1 => (((su v c r).1 - (su v c r).2) % BB, 38 * (-(((su v c r).1 - (su v c r).2) / BB)))
def subV (v u : Int) : Int := (su ((v - u) % BB) (38 * (-((v - u) / BB))) 2).1
theorem su_ok (v c : Int) (hv0 : 0 ≤ v) (hv1 : v < BB) (hc : 0 ≤ c ∧ c ≤ 38) (r : Nat) (hr : r ≤ 2) : 0 ≤ (su v c r).1 ∧ (su v c r).1 < BB ∧ (0 ≤ (su v c r).2 ∧ (su v c r).2 ≤ 38) ∧ (r = 2 → (su v c r).2 = 0) := by
  unfold BB at *
  match r, hr with
  | 0, _ => simp only [su]; omega
  | 1, _ => simp only [su]; unfold BB; omega
  | 2, _ => simp only [su]; unfold BB; omega
theorem su_start (v u : Int) (hv0 : 0 ≤ v) (hv1 : v < BB) (hu0 : 0 ≤ u) (hu1 : u < BB) : 0 ≤ (v - u) % BB ∧ (v - u) % BB < BB ∧ 0 ≤ 38 * (-((v - u) / BB)) ∧ 38 * (-((v - u) / BB)) ≤ 38 := by
  unfold BB at *
  omega

theorem step_sub2 {l : List Int} (h : Four l) (m : List Int) (hm : m.length = 4) (i : Nat) (hi : i < 4) (c v : Int) (hV : val l - c * 18446744073709551616 ^ i = v - val (m.take i)) :
    val (l.set i ((l.getD i 0 - m.getD i 0 - c) % 18446744073709551616)) + ((l.getD i 0 - m.getD i 0 - c) / 18446744073709551616) * 18446744073709551616 ^ (i + 1) = v - val (m.take (i + 1)) := by
  have h1 := step_add h i hi (-c) (v - val (m.take i)) (-(m.getD i 0) - c) (by rw [← hV, Int.neg_mul]; omega)
  have e : l.getD i 0 + (-(m.getD i 0) - c) = l.getD i 0 - m.getD i 0 - c := by omega
  rw [e] at h1
  rw [h1, val_take_succ m i (by omega)]
  have : -(m.getD i 0) - c - -c = -(m.getD i 0) := by omega
  rw [this, Int.neg_mul]
  omega
theorem step_sub {l : List Int} (h : Four l) (i : Nat) (hi : i < 4) (c V : Int) (hV : val l - c * 18446744073709551616 ^ i = V) :
    val (l.set i ((l.getD i 0 - c) % 18446744073709551616)) + ((l.getD i 0 - c) / 18446744073709551616) * 18446744073709551616 ^ (i + 1) = V := by
  have h1 := step_add h i hi (-c) V (-c) (by rw [← hV, Int.neg_mul]; omega)
  rw [show l.getD i 0 + -c = l.getD i 0 - c by omega] at h1
  rw [h1]
  have : -c - -c = 0 := by omega
  rw [this]; omega
theorem borrow (x y b : Int) (hx : Word x) (hy : Word y) (hb : b = 0 ∨ b = 1) : (if x < y + b then (1 : Int) else 0) = -((x - y - b) / 18446744073709551616) := by
  unfold Word at hx hy
  split <;> omega

set_option maxHeartbeats 2000000 in
theorem sub_any (v u : Int) (hv0 : 0 ≤ v) (hv1 : v < BB) (hu0 : 0 ≤ u) (hu1 : u < BB) (w : World) :
    Calls Try.prog 27 #[.agg (E v), .agg (E u)] w fun e w' => e = .returned (.agg (E (subV v u))) ∧ Below w.heap.size w w' := by
  have HV := Lib.hid (And.intro (And.intro hv0 hv1) (And.intro hu0 hu1))
  have hss := su_start v u hv0 hv1 hu0 hu1
  have HOK := Lib.hid (su_ok _ _ hss.1 hss.2.1 hss.2.2)
  clear hv0 hv1 hu0 hu1 hss
  go_enter Try.func27, Try.ntmps27
  go_wp2
  go_loopw [5, 8] (fun s5 s7 wr => ∃ (i : Nat) (c : Int) (l : List Int), i ≤ 4 ∧ s7 = .int .i64 i ∧ s5 = .int .u64 c ∧ (c = 0 ∨ c = 1) ∧ Four l ∧ val l - c * 18446744073709551616 ^ i = v - val ((lim u).take i) ∧ wr.heap[w.heap.size]? = some (.cells (Ls l) 27 (0, 0)) ∧ wr.heap[w.heap.size + 1]? = some (.cells (Ls (lim u)) 27 (0, 0)) ∧ wr.heap[w.heap.size + 1 + 1]? = some (.cells (Ls [0, 0, 0, 0]) 27 (0, 0)) ∧ Below w.heap.size w wr) (fun _ s7 _ => 4 - (intOf s7).toNat)
  case atStart =>
    have h := HV.out
    exact ⟨0, 0, lim v, by omega, rfl, rfl, by omega, Four.lim v, by rw [val_lim v h.1.1 h.1.2]; simp [val], heap_alloc3_0 w _ _ _, heap_alloc3_1 w _ _ _, heap_alloc3_2 w _ _ _, (((Below.refl _ _).alloc (Nat.le_refl _) _).alloc (by simp) _).alloc (by simp; omega) _⟩
  case round =>
    obtain ⟨i, c, l, hi, rfl, rfl, hc, h4, hval, hb0, hb1, hb2, hB⟩ := hrel
    have H4 := Lib.hid h4
    have HVL := Lib.hid hval
    have HB0 := Lib.hid hb0
    have HB1 := Lib.hid hb1
    have HB2 := Lib.hid hb2
    have HB := Lib.hid hB
    have HC := Lib.hid hc
    clear h4 hval hb0 hb1 hb2 hB hc
    by_cases hi4 : i < 4
    · have q0 := ls_cell HB0.out i (by rw [H4.out.1]; exact hi4)
      have q1 := ls_cell HB1.out i (by rw [lim_length]; exact hi4)
      have f0 := blk_frozen HB0.out i
      have hx := H4.out.get i
      have hy := (Four.lim u).get i
      have HS := Lib.hid (step_sub2 H4.out (lim u) (lim_length u) i hi4 c v HVL.out)
      generalize l.getD i 0 = x at q0 hx HS
      generalize (lim u).getD i 0 = y at q1 hy HS
      have hsub := sub64 x y c hx hy HC.out
      rw [borrow x y c hx hy HC.out] at hsub
      have hcc := HC.out
      unfold Word at hx hy
      have hn : Word ((x - y - c) % 18446744073709551616) ∧ (-((x - y - c) / 18446744073709551616) = 0 ∨ -((x - y - c) / 18446744073709551616) = 1) := by unfold Word; omega
      obtain ⟨s, hs⟩ : ∃ s, (x - y - c) % 18446744073709551616 = s := ⟨_, rfl⟩
      obtain ⟨k, hk⟩ : ∃ k, -((x - y - c) / 18446744073709551616) = k := ⟨_, rfl⟩
      have hk' : (x - y - c) / 18446744073709551616 = -k := by omega
      rw [hs, hk] at hsub hn
      rw [hs, hk'] at HS
      have HN := Lib.hid hn
      clear hs hk hk' hx hy hn hcc
      go_wp2
      go_region
      go_wp2
      go_roundw
      case rel =>
        refine ⟨i + 1, k, l.set i s, by omega, by go_num, rfl, HN.out.2, H4.out.set i s HN.out.1, by rw [← HS.out, Int.neg_mul]; omega, ls_set HB0.out i s, (blk_far HB1.out (by dsimp only; omega) _), (blk_far HB2.out (by dsimp only; omega) _), (HB.out.setCell (by dsimp only; omega) _).drew⟩
      case measure => simp [intOf] <;> omega
    · obtain rfl : i = 4 := by omega
      have hrg := H4.out.range
      have hvl := HVL.out
      have hvu := HV.out
      have hcc := HC.out
      rw [List.take_of_length_le (by rw [lim_length]; omega), val_lim u hvu.2.1 hvu.2.2] at hvl
      have k1 : val l = (v - u) % BB := by unfold BB at *; omega
      have k2 : c = -((v - u) / BB) := by unfold BB at *; omega
      have hc0 : 0 ≤ c := by omega
      have hc1 : c ≤ 1 := by omega
      have HK1 := Lib.hid k1
      have HK := Lib.hid k2
      clear hrg hvl hvu hcc k1 k2 HVL HC
      go_wp2
      go_loopw [5, 27] (fun s1 s6 wr => ∃ (r : Nat) (l : List Int), r ≤ 2 ∧ s6 = .int .i64 r ∧ s1 = .int .u64 (su ((v - u) % BB) (38 * (-((v - u) / BB))) r).2 ∧ Four l ∧ val l = (su ((v - u) % BB) (38 * (-((v - u) / BB))) r).1 ∧ wr.heap[w.heap.size]? = some (.cells (Ls l) 27 (0, 0)) ∧ wr.heap[w.heap.size + 1 + 1]? = some (.cells (Ls [0, 0, 0, 0]) 27 (0, 0)) ∧ Below w.heap.size w wr) (fun _ s6 _ => 2 - (intOf s6).toNat)
      case atStart => exact ⟨0, l, by omega, rfl, by rw [HK.out]; simp only [su]; congr 1; omega, H4.out, HK1.out, HB0.out, HB2.out, HB.out⟩
      case round =>
        clear HK1 HK HB0 HB1 HB2 HB H4 hc0 hc1
        obtain ⟨r, l, hr, rfl, rfl, h4, hval, hb0, hb1, hB⟩ := hrel
        have hst := HOK.out r hr
        by_cases hr2 : r < 2
        · have hst2 : Hid (su ((v - u) % BB) (38 * (-((v - u) / BB))) (r + 1) = (((su ((v - u) % BB) (38 * (-((v - u) / BB))) r).1 - (su ((v - u) % BB) (38 * (-((v - u) / BB))) r).2) % BB, 38 * (-(((su ((v - u) % BB) (38 * (-((v - u) / BB))) r).1 - (su ((v - u) % BB) (38 * (-((v - u) / BB))) r).2) / BB)))) := rfl
          generalize (su ((v - u) % BB) (38 * (-((v - u) / BB))) r).1 = V1 at hst hst2 hval
          generalize (su ((v - u) % BB) (38 * (-((v - u) / BB))) r).2 = c1 at hst hst2
          obtain ⟨hv0, hv1, hc, _⟩ := hst
          have H4 := Lib.hid h4
          have HVL := Lib.hid hval
          have HB0 := Lib.hid hb0
          have HB1 := Lib.hid hb1
          have HB := Lib.hid hB
          have HV1 := Lib.hid hv1
          have HC1 := Lib.hid hc
          clear h4 hval hb0 hb1 hB hv1 hc
          go_wp2
          go_loopw [5, 29] (fun s1 s8 wi => ∃ (i : Nat) (c2 : Int) (l : List Int), i ≤ 4 ∧ s8 = .int .i64 i ∧ s1 = .int .u64 c2 ∧ (0 ≤ c2 ∧ c2 ≤ 38 ∧ (i = 0 ∨ c2 ≤ 1)) ∧ Four l ∧ val l - c2 * 18446744073709551616 ^ i = V1 - c1 ∧ wi.heap[w.heap.size]? = some (.cells (Ls l) 27 (0, 0)) ∧ wi.heap[w.heap.size + 1 + 1]? = some (.cells (Ls [0, 0, 0, 0]) 27 (0, 0)) ∧ Below w.heap.size w wi) (fun _ s8 _ => 4 - (intOf s8).toNat)
          case atStart => exact ⟨0, c1, l, by omega, rfl, rfl, ⟨HC1.out.1, HC1.out.2, .inl rfl⟩, H4.out, by rw [HVL.out]; simp, HB0.out, HB1.out, HB.out⟩
          case round =>
            clear HVL HB0 HB1 HB H4
            obtain ⟨i, c2, l2, hi, rfl, rfl, hc2, h4, hval, hb0, hb1, hB⟩ := hrel
            have H4 := Lib.hid h4
            have HVL := Lib.hid hval
            have HB0 := Lib.hid hb0
            have HB1 := Lib.hid hb1
            have HB := Lib.hid hB
            have HC2 := Lib.hid hc2
            clear h4 hval hb0 hb1 hB hc2
            by_cases hi4 : i < 4
            · have q1 := ls_cell HB0.out i (by rw [H4.out.1]; exact hi4)
              have f1 := blk_frozen HB0.out i
              have hx := H4.out.get i
              have HS := Lib.hid (step_sub H4.out i hi4 c2 (V1 - c1) HVL.out)
              generalize l2.getD i 0 = x at q1 hx HS
              have hy : Word c2 := by have := HC2.out; unfold Word; omega
              have hsub := sub64 x c2 0 hx hy (by omega)
              rw [borrow x c2 0 hx hy (by omega), Int.sub_zero] at hsub
              have hcc := HC2.out
              unfold Word at hx
              have hn : Word ((x - c2) % 18446744073709551616) ∧ 0 ≤ -((x - c2) / 18446744073709551616) ∧ -((x - c2) / 18446744073709551616) ≤ 1 := by unfold Word; omega
              obtain ⟨s, hs⟩ : ∃ s, (x - c2) % 18446744073709551616 = s := ⟨_, rfl⟩
              obtain ⟨k, hk⟩ : ∃ k, -((x - c2) / 18446744073709551616) = k := ⟨_, rfl⟩
              have hk' : (x - c2) / 18446744073709551616 = -k := by omega
              rw [hs, hk] at hsub hn
              rw [hs, hk'] at HS
              have HN := Lib.hid hn
              clear hs hk hk' hx hy hn hcc
              go_wp2
              go_roundw
              case rel =>
                refine ⟨i + 1, k, l2.set i s, by omega, by go_num, rfl, ⟨HN.out.2.1, by have := HN.out.2.2; omega, .inr HN.out.2.2⟩, H4.out.set i s HN.out.1, by rw [← HS.out, Int.neg_mul]; omega, ls_set HB0.out i s, (blk_far HB1.out (by dsimp only; omega) _), HB.out.setCell (by dsimp only; omega) _⟩
              case measure => simp [intOf] <;> omega
            · obtain rfl : i = 4 := by omega
              have hrg := H4.out.range
              have hc3 := HC2.out
              have hvl := HVL.out
              have hC1 := HC1.out
              have hV1 := HV1.out
              have k1 : val l2 = (V1 - c1) % BB := by unfold BB at *; omega
              have k2 : c2 = -((V1 - c1) / BB) := by unfold BB at *; omega
              have k3 : 0 ≤ c2 := by omega
              have k4 : c2 ≤ 1 := by omega
              have K1 := Lib.hid k1
              have K2 := Lib.hid k2
              clear hrg hc3 hvl hC1 hV1 k1 k2
              go_wp2
              go_roundw
              case rel =>
                refine ⟨r + 1, l2, by omega, by go_num, ?_, H4.out, ?_, HB0.out, HB1.out, HB.out⟩
                · rw [hst2.out, ← K2.out]
                  congr 1
                  omega
                · rw [hst2.out, K1.out]
              case measure => simp [intOf] <;> omega
        · obtain rfl : r = 2 := by omega
          have HE : Hid (Ls l = E (subV v u)) := h4.eq _ hval
          have HB0 := Lib.hid hb0
          have HB1 := Lib.hid hb1
          have HB := Lib.hid hB
          have H4 := Lib.hid h4
          clear h4 hval hb0 hb1 hB hst
          go_wp2_with (first | (refine load27 rfl _ rfl w.heap.size l rfl HB0.out H4.out.1 ?_) | (refine store27 rfl _ _ rfl (w.heap.size + 1 + 1) l [0, 0, 0, 0] rfl rfl HB1.out rfl H4.out.1 ?_))
          refine ret27 rfl (w.heap.size + 1 + 1) l rfl (ls_row HB1.out) H4.out.1 rfl ?_
          exact ⟨by rw [HE.out], below_setRow HB.out (by omega) _⟩

end Go.Proofs.Ytfklojheogidpaa
