import Derived.Test.YtfklojheogidpaaCar
set_option linter.unusedVariables false
namespace Go.Proofs.Ytfklojheogidpaa
open Go.RowKit Go.Proofs.YtfklojheogidpaaW.PrintWords

def addV (v u : Int) : Int := carV ((v + u) % BB) (38 * ((v + u) / BB))
theorem heap_alloc3_0 (w : World) (A B C : Obj) : (((w.alloc A).alloc B).alloc C).heap[w.heap.size]? = some A := by
  rw [Below.heap_alloc _ _ _ (by simp; omega)]; exact heap_alloc2_old w A B
theorem heap_alloc3_1 (w : World) (A B C : Obj) : (((w.alloc A).alloc B).alloc C).heap[w.heap.size + 1]? = some B := by
  rw [Below.heap_alloc _ _ _ (by simp)]; exact heap_alloc2_new w A B
theorem heap_alloc3_2 (w : World) (A B C : Obj) : (((w.alloc A).alloc B).alloc C).heap[w.heap.size + 1 + 1]? = some C := by
  have h := heap_alloc_new ((w.alloc A).alloc B) C
  have e : ((w.alloc A).alloc B).heap.size = w.heap.size + 1 + 1 := by simp
  rwa [e] at h
theorem carV_range (v c : Int) (hv0 : 0 ≤ v) (hv1 : v < BB) (hc : Word c) : 0 ≤ carV v c ∧ carV v c < BB := by
  unfold carV Word BB at *
  split <;> omega
theorem addV_range (v u : Int) (hv0 : 0 ≤ v) (hv1 : v < BB) (hu0 : 0 ≤ u) (hu1 : u < BB) : 0 ≤ addV v u ∧ addV v u < BB := by
  refine carV_range _ _ ?_ ?_ ?_
  all_goals (unfold BB at *; try unfold Word); omega

/-- One step of adding two numbers. -/
theorem step_add2 {l : List Int} (h : Four l) (m : List Int) (hm : m.length = 4) (i : Nat) (hi : i < 4) (c v : Int) (hV : val l + c * 18446744073709551616 ^ i = v + val (m.take i)) :
    val (l.set i ((l.getD i 0 + m.getD i 0 + c) % 18446744073709551616)) + ((l.getD i 0 + m.getD i 0 + c) / 18446744073709551616) * 18446744073709551616 ^ (i + 1) = v + val (m.take (i + 1)) := by
  have h1 := step_add h i hi c _ (m.getD i 0 + c) hV
  rw [← Int.add_assoc] at h1
  rw [h1, val_take_succ m i (by omega)]
  have : m.getD i 0 + c - c = m.getD i 0 := by omega
  rw [this, Int.add_assoc]

set_option maxHeartbeats 1000000 in
theorem add_any (v u : Int) (hv0 : 0 ≤ v) (hv1 : v < BB) (hu0 : 0 ≤ u) (hu1 : u < BB) (w : World) :
    Calls Try.prog 25 #[.agg (E v), .agg (E u)] w fun e w' => e = .returned (.agg (E (addV v u))) ∧ Below w.heap.size w w' := by
  have HV := Lib.hid (And.intro (And.intro hv0 hv1) (And.intro hu0 hu1))
  clear hv0 hv1 hu0 hu1
  go_enter Try.func25, Try.ntmps25
  go_wp2
  go_loopw [5, 7] (fun s5 s7 wr => ∃ (i : Nat) (c : Int) (l : List Int), i ≤ 4 ∧ s7 = .int .i64 i ∧ s5 = .int .u64 c ∧ (0 ≤ c ∧ c ≤ 1) ∧ Four l ∧ val l + c * 18446744073709551616 ^ i = v + val ((lim u).take i) ∧ wr.heap[w.heap.size]? = some (.cells (Ls l) 27 (0, 0)) ∧ wr.heap[w.heap.size + 1]? = some (.cells (Ls (lim u)) 27 (0, 0)) ∧ wr.heap[w.heap.size + 1 + 1]? = some (.cells (Ls [0, 0, 0, 0]) 27 (0, 0)) ∧ Below w.heap.size w wr) (fun _ s7 _ => 4 - (intOf s7).toNat)
  case atStart =>
    have h := HV.out
    exact ⟨0, 0, lim v, by omega, rfl, rfl, by omega, Four.lim v, by rw [val_lim v h.1.1 h.1.2]; simp [val], heap_alloc3_0 w _ _ _, heap_alloc3_1 w _ _ _, heap_alloc3_2 w _ _ _, (((Below.refl _ _).alloc (Nat.le_refl _) _).alloc (by simp) _).alloc (by simp; omega) _⟩
  case round =>
    obtain ⟨i, c, l, hi, rfl, rfl, ⟨hc0, hc1⟩, h4, hval, hb0, hb1, hb2, hB⟩ := hrel
    have H4 := Lib.hid h4
    have HVL := Lib.hid hval
    have HB0 := Lib.hid hb0
    have HB1 := Lib.hid hb1
    have HB2 := Lib.hid hb2
    have HB := Lib.hid hB
    clear h4 hval hb0 hb1 hb2 hB
    by_cases hi4 : i < 4
    · have q0 := ls_cell HB0.out i (by rw [H4.out.1]; exact hi4)
      have q1 := ls_cell HB1.out i (by rw [lim_length]; exact hi4)
      have f0 := blk_frozen HB0.out i
      have hx := H4.out.get i
      have hy := (Four.lim u).get i
      have HS := Lib.hid (step_add2 H4.out (lim u) (lim_length u) i hi4 c v HVL.out)
      generalize l.getD i 0 = x at q0 hx HS
      generalize (lim u).getD i 0 = y at q1 hy HS
      have hadd := add64 x y c hx.1 hy.1 hc0 hc1
      unfold Word at hx hy
      have hn : Word ((x + y + c) % 18446744073709551616) ∧ (0 ≤ (x + y + c) / 18446744073709551616 ∧ (x + y + c) / 18446744073709551616 ≤ 1) := by unfold Word; omega
      obtain ⟨s, hs⟩ : ∃ s, (x + y + c) % 18446744073709551616 = s := ⟨_, rfl⟩
      obtain ⟨k, hk⟩ : ∃ k, (x + y + c) / 18446744073709551616 = k := ⟨_, rfl⟩
      rw [hs, hk] at hadd hn HS
      have HN := Lib.hid hn
      clear hs hk hx hy hn
      go_wp2
      go_region
      go_wp2
      go_roundw
      case rel =>
        refine ⟨i + 1, k, l.set i s, by omega, by go_num, rfl, HN.out.2, H4.out.set i s HN.out.1, HS.out, ls_set HB0.out i s, (blk_far HB1.out (by dsimp only; omega) _), (blk_far HB2.out (by dsimp only; omega) _), (HB.out.setCell (by dsimp only; omega) _).drew⟩
      case measure => simp [intOf] <;> omega
    · obtain rfl : i = 4 := by omega
      have hrg := H4.out.range
      have hvl := HVL.out
      have hvu := HV.out
      rw [List.take_of_length_le (by rw [lim_length]; omega), val_lim u hvu.2.1 hvu.2.2] at hvl
      have k1 : val l = (v + u) % BB := by unfold BB at *; omega
      have k2 : c = (v + u) / BB := by unfold BB at *; omega
      have HE := Lib.hid (H4.out.eq _ k1)
      have HK := Lib.hid k2
      have hrr : Hid (0 ≤ (v + u) % BB ∧ (v + u) % BB < BB) := by unfold BB; exact ⟨by omega, by omega⟩
      clear hrg hvl hvu k1 k2
      go_wp2_with (refine load27 rfl _ rfl w.heap.size l rfl HB0.out H4.out.1 ?_)
      rw [HE.out]
      refine (carried_any ((v + u) % BB) (38 * c) hrr.out.1 hrr.out.2 ⟨by omega, by omega⟩ _).mono ?_
      rw [HK.out]
      rintro e w2 ⟨rfl, b2⟩
      have HB2' := Lib.hid ((b2.block _ (blk_lt HB2.out)).trans HB2.out)
      have HBB := Lib.hid (HB.out.trans (b2.mono HB.out.size))
      clear b2
      go_wp2_with (refine store27 rfl _ _ rfl (w.heap.size + 1 + 1) (lim (addV v u)) [0, 0, 0, 0] rfl rfl HB2'.out rfl rfl ?_)
      refine ret27 rfl (w.heap.size + 1 + 1) (lim (addV v u)) rfl (ls_row HB2'.out) rfl rfl ?_
      exact ⟨rfl, below_setRow HBB.out (by omega) _⟩

end Go.Proofs.Ytfklojheogidpaa
