import Derived.Test.YtfklojheogidpaaAdd
import Derived.Laws.MathBits
set_option linter.unusedVariables false
namespace Go.Proofs.Ytfklojheogidpaa
open Go.RowKit Go.Proofs.YtfklojheogidpaaW.PrintWords Go.Proofs.Ytfklojheogidpaa.Ref

theorem wrap_u64_mod (x : Int) : IntKind.u64.wrap x = x % 18446744073709551616 := by simp [IntKind.wrap, IntKind.bits, IntKind.signed]
theorem mul64_f (x y : Int) (hx : Word x) (hy : Word y) : bits_Mul64.f x y = some (x * y / 18446744073709551616, x * y % 18446744073709551616) := by
  obtain ⟨hx0, hx1⟩ := hx
  obtain ⟨hy0, hy1⟩ := hy
  have e1 : 0 ≤ x / 4294967296 * (y % 4294967296) := Int.mul_nonneg (by omega) (by omega)
  have hw : ∀ z : Int, bits .and .u64 (z % 18446744073709551616) 4294967295 = z % 18446744073709551616 % 4294967296 := fun z => and_low32 _ (by omega) (by omega)
  unfold bits_Mul64.f
  simp only [wrap_u64_mod, and_low32 x hx0 hx1, and_low32 y hy0 hy1, hw, mul64_arith x y hx0 hx1 hy0 hy1]
theorem mul64 (x y : Int) (hx : Word x) (hy : Word y) (w : World) :
    Calls Try.prog 56 #[.int .u64 x, .int .u64 y] w fun e w' => e = .returned (.tuple #[.int .u64 (x * y / 18446744073709551616), .int .u64 (x * y % 18446744073709551616)]) ∧ Drawn0 w w' :=
  bits_Mul64.calls x y _ _ w (mul64_f x y hx hy)

def timesV (v n : Int) : Int := carV ((v * n) % BB) (38 * ((v * n) / BB))

/-- One step of multiplying by a small number: what stands from word i on is still the number's. -/
theorem step_times {l : List Int} (h : Four l) (m : List Int) (hm : m.length = 4) (n : Int) (i : Nat) (hi : i < 4) (c v : Int) (hsame : l.getD i 0 = m.getD i 0) (hV : val l + c * 18446744073709551616 ^ i = v - val (m.take i) + n * val (m.take i)) :
    val (l.set i ((m.getD i 0 * n + c) % 18446744073709551616)) + ((m.getD i 0 * n + c) / 18446744073709551616) * 18446744073709551616 ^ (i + 1) = v - val (m.take (i + 1)) + n * val (m.take (i + 1)) := by
  have h1 := step_add h i hi c _ (m.getD i 0 * n + c - m.getD i 0) hV
  rw [show l.getD i 0 + (m.getD i 0 * n + c - m.getD i 0) = m.getD i 0 * n + c by rw [hsame]; omega] at h1
  rw [h1, val_take_succ m i (by omega)]
  generalize (18446744073709551616 : Int) ^ i = P
  generalize val (m.take i) = T
  generalize m.getD i 0 = x
  have : (x * n + c - x - c) * P = n * (x * P) - x * P := by
    rw [show x * n + c - x - c = n * x - x by rw [Int.mul_comm x n]; omega, Int.sub_mul, Int.mul_assoc]
  rw [this, Int.mul_add]
  omega
theorem getD_set_ne (l : List Int) (i j : Nat) (x : Int) (h : i ≠ j) : (l.set i x).getD j 0 = l.getD j 0 := by
  simp [List.getD_eq_getElem?_getD, List.getElem?_set_ne h]

set_option maxHeartbeats 2000000 in
theorem times_any (v n : Int) (hv0 : 0 ≤ v) (hv1 : v < BB) (hn0 : 0 ≤ n) (hn1 : n < 4294967296) (w : World) :
    Calls Try.prog 31 #[.agg (E v), .int .u32 n] w fun e w' => e = .returned (.agg (E (timesV v n))) ∧ Below w.heap.size w w' := by
  have HV := Lib.hid (And.intro hv0 hv1)
  clear hv0 hv1
  go_enter Try.func31, Try.ntmps31
  go_wp2
  go_loopw [5, 10] (fun s5 s7 wr => ∃ (i : Nat) (c : Int) (l : List Int), i ≤ 4 ∧ s7 = .int .i64 i ∧ s5 = .int .u64 c ∧ (0 ≤ c ∧ c ≤ 4294967295) ∧ Four l ∧ (∀ t, i ≤ t → l.getD t 0 = (lim v).getD t 0) ∧ val l + c * 18446744073709551616 ^ i = v - val ((lim v).take i) + n * val ((lim v).take i) ∧ wr.heap[w.heap.size]? = some (.cells (Ls l) 27 (0, 0)) ∧ wr.heap[w.heap.size + 1]? = some (.cells (Ls [0, 0, 0, 0]) 27 (0, 0)) ∧ Below w.heap.size w wr) (fun _ s7 _ => 4 - (intOf s7).toNat)
  case atStart =>
    have h := HV.out
    exact ⟨0, 0, lim v, by omega, rfl, rfl, by omega, Four.lim v, fun _ _ => rfl, by rw [val_lim v h.1 h.2]; simp [val], heap_alloc2_old w _ _, heap_alloc2_new w _ _, ((Below.refl _ _).alloc (Nat.le_refl _) _).alloc (by simp) _⟩
  case round =>
    obtain ⟨i, c, l, hi, rfl, rfl, ⟨hc0, hc1⟩, h4, hsm, hval, hb0, hb1, hB⟩ := hrel
    have H4 := Lib.hid h4
    have HVL := Lib.hid hval
    have HB0 := Lib.hid hb0
    have HB1 := Lib.hid hb1
    have HB := Lib.hid hB
    have HSM := Lib.hid hsm
    clear h4 hval hb0 hb1 hB hsm
    by_cases hi4 : i < 4
    · have q0 := ls_cell HB0.out i (by rw [H4.out.1]; exact hi4)
      rw [HSM.out i (Nat.le_refl _)] at q0
      have hx := (Four.lim v).get i
      have HS := Lib.hid (step_times H4.out (lim v) (lim_length v) n i hi4 c v (HSM.out i (Nat.le_refl _)) HVL.out)
      generalize (lim v).getD i 0 = x at q0 hx HS
      have HX := Lib.hid hx
      unfold Word at hx
      have hp0 : 0 ≤ x * n := Int.mul_nonneg hx.1 hn0
      have hp1 : x * n ≤ 18446744073709551615 * 4294967295 := Int.mul_le_mul (by omega) (by omega) hn0 (by omega)
      have HM := Lib.hid (mul64 x n HX.out ⟨hn0, by omega⟩)
      generalize x * n = p at hp0 hp1 HM HS
      obtain ⟨hi', hhi⟩ : ∃ hi', p / 18446744073709551616 = hi' := ⟨_, rfl⟩
      obtain ⟨lo, hlo⟩ : ∃ lo, p % 18446744073709551616 = lo := ⟨_, rfl⟩
      have hadd := add64 lo c 0 (by omega) hc0 (by omega) (by omega)
      rw [Int.add_zero] at hadd
      obtain ⟨s, hs⟩ : ∃ s, (lo + c) % 18446744073709551616 = s := ⟨_, rfl⟩
      obtain ⟨k, hk⟩ : ∃ k, (lo + c) / 18446744073709551616 = k := ⟨_, rfl⟩
      have e1 : (p + c) % 18446744073709551616 = s := by omega
      have e2 : (p + c) / 18446744073709551616 = hi' + k := by omega
      have hn : Word s ∧ 0 ≤ hi' + k ∧ hi' + k ≤ 4294967295 := by unfold Word; omega
      have hh0 : 0 ≤ hi' := by omega
      have hh1 : hi' ≤ 4294967295 := by omega
      have hk0 : 0 ≤ k := by omega
      have hk1 : k ≤ 1 := by omega
      rw [hs, hk] at hadd
      rw [hhi, hlo] at HM
      rw [e1, e2] at HS
      have HN := Lib.hid hn
      clear hs hk hx hn e1 e2 hp0 hp1 hhi hlo
      go_wp2_with fail
      refine (HM.out _).mono ?_
      rintro e w2 ⟨rfl, ⟨⟨m, rfl⟩⟩⟩
      have f0 := blk_frozen HB0.out i
      go_wp2
      go_roundw
      case rel =>
        refine ⟨i + 1, hi' + k, l.set i s, by omega, by go_num, rfl, HN.out.2, H4.out.set i s HN.out.1, fun t ht => by rw [getD_set_ne l i t s (by omega)]; exact HSM.out t (by omega), HS.out, ls_set HB0.out i s, (blk_far HB1.out (by dsimp only; omega) _), pw_below_drewN (HB.out.setCell (by dsimp only; omega) _) m⟩
      case measure => simp [intOf] <;> omega
    · obtain rfl : i = 4 := by omega
      have hrg := H4.out.range
      have hvl := HVL.out
      have hvu := HV.out
      rw [List.take_of_length_le (by rw [lim_length]; omega), val_lim v hvu.1 hvu.2, Int.mul_comm n v] at hvl
      have k1 : val l = (v * n) % BB := by unfold BB at *; omega
      have k2 : c = (v * n) / BB := by unfold BB at *; omega
      have HE := Lib.hid (H4.out.eq _ k1)
      have HK := Lib.hid k2
      have hrr : Hid (0 ≤ (v * n) % BB ∧ (v * n) % BB < BB) := by unfold BB; exact ⟨by omega, by omega⟩
      clear hrg hvl hvu k1 k2
      go_wp2_with (refine load27 rfl _ rfl w.heap.size l rfl HB0.out H4.out.1 ?_)
      rw [HE.out]
      refine (carried_any ((v * n) % BB) (38 * c) hrr.out.1 hrr.out.2 ⟨by omega, by omega⟩ _).mono ?_
      rw [HK.out]
      rintro e w2 ⟨rfl, b2⟩
      have HB2' := Lib.hid ((b2.block _ (blk_lt HB1.out)).trans HB1.out)
      have HBB := Lib.hid (HB.out.trans (b2.mono HB.out.size))
      clear b2
      go_wp2_with (refine store27 rfl _ _ rfl (w.heap.size + 1) (lim (timesV v n)) [0, 0, 0, 0] rfl rfl HB2'.out rfl rfl ?_)
      refine ret27 rfl (w.heap.size + 1) (lim (timesV v n)) rfl (ls_row HB2'.out) rfl rfl ?_
      exact ⟨rfl, below_setRow HBB.out (by omega) _⟩

theorem timesV_range (v n : Int) (hv0 : 0 ≤ v) (hv1 : v < BB) (hn0 : 0 ≤ n) (hn1 : n < 4294967296) : 0 ≤ timesV v n ∧ timesV v n < BB := by
  have h0 : 0 ≤ v * n := Int.mul_nonneg hv0 hn0
  have h1 : v * n ≤ (BB - 1) * 4294967295 := Int.mul_le_mul (by omega) (by omega) hn0 (by unfold BB; omega)
  unfold timesV
  generalize v * n = p at *
  refine carV_range _ _ ?_ ?_ ?_
  all_goals (unfold BB at *; try unfold Word); omega

end Go.Proofs.Ytfklojheogidpaa
