import Derived.Test.YtfklojheogidpaaEl
set_option linter.unusedVariables false
namespace Go.Proofs.Ytfklojheogidpaa
open Go.RowKit Go.Proofs.YtfklojheogidpaaW.PrintWords

/-- What 'carried' makes. -/
def carV (v c : Int) : Int := if v + c < BB then v + c else v + c - BB + 38
def st (v c : Int) : Nat → Int × Int
  | 0 => (v, c)
  | r + 1 => (((st v c r).1 + (st v c r).2) % BB, 38 * (((st v c r).1 + (st v c r).2) / BB))
theorem st_ok (v c : Int) (hv0 : 0 ≤ v) (hv1 : v < BB) (hc : Word c) (r : Nat) (hr : r ≤ 2) : 0 ≤ (st v c r).1 ∧ (st v c r).1 < BB ∧ Word (st v c r).2 ∧ (r = 2 → (st v c r).1 = carV v c) := by
  unfold Word BB at *
  match r, hr with
  | 0, _ => simp only [st]; omega
  | 1, _ => simp only [st]; unfold BB; omega
  | 2, _ => simp only [st, carV]; unfold BB; split <;> omega

def Four (l : List Int) : Prop := l.length = 4 ∧ ∀ x ∈ l, Word x
theorem Four.lim (v : Int) : Four (lim v) := ⟨rfl, lim_word v⟩
theorem Four.get {l : List Int} (h : Four l) (i : Nat) : Word (l.getD i 0) := word_getD h.2 i
theorem Four.set {l : List Int} (h : Four l) (i : Nat) (x : Int) (hx : Word x) : Four (l.set i x) := ⟨by simpa using h.1, word_set h.2 i x hx⟩
theorem Four.range {l : List Int} (h : Four l) : 0 ≤ val l ∧ val l < BB := val_range l h.1 h.2
theorem Four.eq {l : List Int} (h : Four l) (v : Int) (hv : val l = v) : Ls l = E v := by rw [E, ← hv, lim_val l h.1 h.2]
theorem Four.zero : Four [0, 0, 0, 0] := ⟨rfl, by intro x hx; simp at hx; subst hx; unfold Word; omega⟩

/-- One step of adding with carry. -/
theorem step_add {l : List Int} (h : Four l) (i : Nat) (hi : i < 4) (c V y : Int) (hV : val l + c * 18446744073709551616 ^ i = V) :
    val (l.set i ((l.getD i 0 + y) % 18446744073709551616)) + ((l.getD i 0 + y) / 18446744073709551616) * 18446744073709551616 ^ (i + 1) = V + (y - c) * 18446744073709551616 ^ i := by
  rw [val_set l i _ (by rw [h.1]; exact hi), Int.pow_succ]
  have e : (l.getD i 0 + y) / 18446744073709551616 * (18446744073709551616 ^ i * 18446744073709551616) = ((l.getD i 0 + y) / 18446744073709551616 * 18446744073709551616) * 18446744073709551616 ^ i := by
    rw [Int.mul_comm (18446744073709551616 ^ i) 18446744073709551616, Int.mul_assoc]
  rw [e, ← hV]
  generalize (18446744073709551616 : Int) ^ i = P
  have hd : (l.getD i 0 + y) % 18446744073709551616 = l.getD i 0 + y - (l.getD i 0 + y) / 18446744073709551616 * 18446744073709551616 := by omega
  rw [hd]
  generalize (l.getD i 0 + y) / 18446744073709551616 * 18446744073709551616 = D
  have : (l.getD i 0 + y - D - l.getD i 0) * P = (y - D) * P := by congr 1; omega
  rw [this, Int.sub_mul, Int.sub_mul]
  omega

set_option maxHeartbeats 1000000 in
theorem carried_any (v c : Int) (hv0 : 0 ≤ v) (hv1 : v < BB) (hc : Word c) (w : World) :
    Calls Try.prog 53 #[.agg (E v), .int .u64 c] w fun e w' => e = .returned (.agg (E (carV v c))) ∧ Below w.heap.size w w' := by
  have HOK := Lib.hid (st_ok v c hv0 hv1 hc)
  clear hc hv1 hv0
  go_enter Try.func53, Try.ntmps53
  go_wp2
  go_loopw [1, 6] (fun s1 s6 wr => ∃ (r : Nat) (l : List Int), r ≤ 2 ∧ s6 = .int .i64 r ∧ s1 = .int .u64 (st v c r).2 ∧ Four l ∧ val l = (st v c r).1 ∧ wr.heap[w.heap.size]? = some (.cells (Ls l) 27 (0, 0)) ∧ wr.heap[w.heap.size + 1]? = some (.cells (Ls [0, 0, 0, 0]) 27 (0, 0)) ∧ Below w.heap.size w wr) (fun _ s6 _ => 2 - (intOf s6).toNat)
  case atStart =>
    have h := HOK.out 0 (by omega)
    exact ⟨0, lim v, by omega, rfl, rfl, Four.lim v, val_lim v h.1 h.2.1, heap_alloc2_old w _ _, heap_alloc2_new w _ _, ((Below.refl _ _).alloc (Nat.le_refl _) _).alloc (by simp) _⟩
  case round =>
    obtain ⟨r, l, hr, rfl, rfl, h4, hval, hb0, hb1, hB⟩ := hrel
    have hst := HOK.out r hr
    by_cases hr2 : r < 2
    · have hst2 : Hid (st v c (r + 1) = (((st v c r).1 + (st v c r).2) % BB, 38 * (((st v c r).1 + (st v c r).2) / BB))) := rfl
      generalize (st v c r).1 = V1 at hst hst2 hval
      generalize (st v c r).2 = c1 at hst hst2
      obtain ⟨hv0, hv1, hc, _⟩ := hst
      have H4 := Lib.hid h4
      have HVL := Lib.hid hval
      have HB0 := Lib.hid hb0
      have HB1 := Lib.hid hb1
      have HB := Lib.hid hB
      have HV1 := Lib.hid hv1
      have HC1 := Lib.hid hc
      clear h4 hval hb0 hb1 hB hv1 hc
      go_wp2
      go_loopw [1, 8] (fun s1 s8 wi => ∃ (i : Nat) (c2 : Int) (l : List Int), i ≤ 4 ∧ s8 = .int .i64 i ∧ s1 = .int .u64 c2 ∧ Word c2 ∧ Four l ∧ val l + c2 * 18446744073709551616 ^ i = V1 + c1 ∧ wi.heap[w.heap.size]? = some (.cells (Ls l) 27 (0, 0)) ∧ wi.heap[w.heap.size + 1]? = some (.cells (Ls [0, 0, 0, 0]) 27 (0, 0)) ∧ Below w.heap.size w wi) (fun _ s8 _ => 4 - (intOf s8).toNat)
      case atStart => exact ⟨0, c1, l, by omega, rfl, rfl, HC1.out, H4.out, by rw [HVL.out]; simp, HB0.out, HB1.out, HB.out⟩
      case round =>
        clear HVL HB0 HB1 HB H4
        obtain ⟨i, c2, l2, hi, rfl, rfl, hc2, h4, hval, hb0, hb1, hB⟩ := hrel
        have H4 := Lib.hid h4
        have HVL := Lib.hid hval
        have HB0 := Lib.hid hb0
        have HB1 := Lib.hid hb1
        have HB := Lib.hid hB
        have HC2 := Lib.hid hc2
        clear h4 hval hb0 hb1 hB hc2
        by_cases hi4 : i < 4
        · have q1 := ls_cell HB0.out i (by rw [H4.out.1]; exact hi4)
          have f1 := blk_frozen HB0.out i
          have hx := H4.out.get i
          have HS := Lib.hid (step_add H4.out i hi4 c2 (V1 + c1) c2 HVL.out)
          generalize l2.getD i 0 = x at q1 hx HS
          have hadd := add64 x c2 0 hx.1 HC2.out.1 (by omega) (by omega)
          rw [Int.add_zero] at hadd
          have hx1 := hx
          have hy1 := HC2.out
          unfold Word at hx1 hy1
          have hn : Word ((x + c2) % 18446744073709551616) ∧ Word ((x + c2) / 18446744073709551616) := by unfold Word; omega
          obtain ⟨s, hs⟩ : ∃ s, (x + c2) % 18446744073709551616 = s := ⟨_, rfl⟩
          obtain ⟨k, hk⟩ : ∃ k, (x + c2) / 18446744073709551616 = k := ⟨_, rfl⟩
          rw [hs, hk] at hadd hn HS
          have HN := Lib.hid hn
          clear hs hk hx hx1 hy1 hn
          go_wp2
          go_roundw
          case rel =>
            refine ⟨i + 1, k, l2.set i s, by omega, by go_num, rfl, HN.out.2, H4.out.set i s HN.out.1, by rw [HS.out]; omega, ls_set HB0.out i s, (blk_far HB1.out (by dsimp only; omega) _), HB.out.setCell (by dsimp only; omega) _⟩
          case measure => simp [intOf] <;> omega
        · obtain rfl : i = 4 := by omega
          have hrg := H4.out.range
          have hc3 := HC2.out
          have hvl := HVL.out
          have hC1 := HC1.out
          have hV1 := HV1.out
          unfold Word BB at *
          have k1 : val l2 = (V1 + c1) % 115792089237316195423570985008687907853269984665640564039457584007913129639936 := by omega
          have k2 : c2 = (V1 + c1) / 115792089237316195423570985008687907853269984665640564039457584007913129639936 := by omega
          have k3 : 0 ≤ c2 := by omega
          have k4 : c2 ≤ 1 := by omega
          have K1 := Lib.hid k1
          have K2 := Lib.hid k2
          clear hrg hc3 hvl hC1 hV1 k1 k2
          go_wp2
          go_roundw
          case rel =>
            refine ⟨r + 1, l2, by omega, by go_num, ?_, H4.out, ?_, HB0.out, HB1.out, HB.out⟩
            · rw [hst2.out, ← K2.out]
              congr 1
              omega
            · rw [hst2.out, K1.out]
          case measure => simp [intOf] <;> omega
    · obtain rfl : r = 2 := by omega
      have hfin := hst.2.2.2 rfl
      have HE : Hid (Ls l = E (carV v c)) := h4.eq _ (hval.trans hfin)
      have HB0 := Lib.hid hb0
      have HB1 := Lib.hid hb1
      have HB := Lib.hid hB
      have H4 := Lib.hid h4
      clear hfin h4 hval hb0 hb1 hB hst
      go_wp2_with (first | (refine load27 rfl _ rfl w.heap.size l rfl HB0.out H4.out.1 ?_) | (refine store27 rfl _ _ rfl (w.heap.size + 1) l [0, 0, 0, 0] rfl rfl HB1.out rfl H4.out.1 ?_))
      refine ret27 rfl (w.heap.size + 1) l rfl (ls_row HB1.out) H4.out.1 rfl ?_
      exact ⟨by rw [HE.out], below_setRow HB.out (by omega) _⟩

end Go.Proofs.Ytfklojheogidpaa
