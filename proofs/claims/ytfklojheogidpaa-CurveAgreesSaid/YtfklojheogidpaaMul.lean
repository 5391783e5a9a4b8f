import Derived.Test.YtfklojheogidpaaTimes
import Derived.Test.YtfklojheogidpaaReg
set_option linter.unusedVariables false
namespace Go.Proofs.Ytfklojheogidpaa
open Go.RowKit Go.Proofs.YtfklojheogidpaaW.PrintWords Go.Proofs.Ytfklojheogidpaa.Ref

def mulV (v u : Int) : Int := addV ((v * u) % BB) (timesV ((v * u) / BB) 38)

theorem quiet_drawn {P : Program} {f : FuncId} {args : Array Value} {w : World} {n : Nat} {v : Value}
    (h : Calls P f args (w.drewN n) fun e w' => e = .returned v ∧ Drawn0 (w.drewN n) w') : Calls P f args (w.drewN n) fun e w'' => e = .returned v ∧ ∃ m, w'' = w.drewN m :=
  h.mono fun _ _ ⟨he, ⟨⟨m, hm⟩⟩⟩ => ⟨he, n + m, by rw [hm, World.drewN_drewN]⟩

/-- One step of adding with carry, in words of any length. -/
theorem step_addN {l : List Int} (m : Nat) (hm : m < l.length) (c V y : Int) (hV : val l + c * 18446744073709551616 ^ m = V) :
    val (l.set m ((l.getD m 0 + y) % 18446744073709551616)) + ((l.getD m 0 + y) / 18446744073709551616) * 18446744073709551616 ^ (m + 1) = V + (y - c) * 18446744073709551616 ^ m := by
  rw [val_set l m _ hm, Int.pow_succ]
  have e : (l.getD m 0 + y) / 18446744073709551616 * (18446744073709551616 ^ m * 18446744073709551616) = ((l.getD m 0 + y) / 18446744073709551616 * 18446744073709551616) * 18446744073709551616 ^ m := by
    rw [Int.mul_comm (18446744073709551616 ^ m) 18446744073709551616, Int.mul_assoc]
  rw [e, ← hV]
  generalize (18446744073709551616 : Int) ^ m = P
  have hd : (l.getD m 0 + y) % 18446744073709551616 = l.getD m 0 + y - (l.getD m 0 + y) / 18446744073709551616 * 18446744073709551616 := by omega
  rw [hd]
  generalize (l.getD m 0 + y) / 18446744073709551616 * 18446744073709551616 = D
  have : (l.getD m 0 + y - D - l.getD m 0) * P = (y - D) * P := by congr 1; omega
  rw [this, Int.sub_mul, Int.sub_mul]
  omega

def Eight (i : Nat) (W : List Int) : Prop := W.length = 8 ∧ (∀ x ∈ W, Word x) ∧ ∀ t, i + 4 ≤ t → W.getD t 0 = 0
theorem prod_words (x y : Int) (hx : Word x) (hy : Word y) : 0 ≤ x * y ∧ x * y ≤ 340282366920938463426481119284349108225 := by
  unfold Word at *
  refine ⟨Int.mul_nonneg hx.1 hy.1, ?_⟩
  have := Int.mul_le_mul (show x ≤ 18446744073709551615 by omega) (show y ≤ 18446744073709551615 by omega) hy.1 (by omega)
  exact Int.le_trans this (by decide)
theorem step_mul {W m : List Int} (i j : Nat) (hi : i < 4) (hj : j < 4) (hW : W.length = 8) (hm : m.length = 4) (a c V0 : Int) (hV : val W + c * 18446744073709551616 ^ (i + j) = V0 + a * val (m.take j) * 18446744073709551616 ^ i) :
    val (W.set (i + j) ((W.getD (i + j) 0 + (a * m.getD j 0 + c)) % 18446744073709551616)) + ((W.getD (i + j) 0 + (a * m.getD j 0 + c)) / 18446744073709551616) * 18446744073709551616 ^ (i + (j + 1)) = V0 + a * val (m.take (j + 1)) * 18446744073709551616 ^ i := by
  have h := step_addN (i + j) (by omega) c _ (a * m.getD j 0 + c) hV
  rw [← Nat.add_assoc, h, val_take_succ m j (by omega), show a * m.getD j 0 + c - c = a * m.getD j 0 by omega, Int.pow_add]
  generalize (18446744073709551616 : Int) ^ i = P
  generalize (18446744073709551616 : Int) ^ j = R
  generalize val (m.take j) = T
  generalize m.getD j 0 = x
  grind

set_option maxHeartbeats 4000000 in
theorem mul_any (v u : Int) (hv0 : 0 ≤ v) (hv1 : v < BB) (hu0 : 0 ≤ u) (hu1 : u < BB) (w : World) :
    Calls Try.prog 29 #[.agg (E v), .agg (E u)] w fun e w' => e = .returned (.agg (E (mulV v u))) ∧ Below w.heap.size w w' := by
  have HV := Lib.hid (And.intro (And.intro hv0 hv1) (And.intro hu0 hu1))
  clear hv0 hv1 hu0 hu1
  go_enter Try.func29, Try.ntmps29
  go_wp2
  go_loopw [14] (fun s14 wr => ∃ (i : Nat) (W : List Int), i ≤ 4 ∧ s14 = .int .i64 i ∧ Eight i W ∧ val W = val ((lim v).take i) * u ∧ wr.heap[w.heap.size]? = some (.cells (Ls (lim v)) 27 (0, 0)) ∧ wr.heap[w.heap.size + 1]? = some (.cells (Ls (lim u)) 27 (0, 0)) ∧ wr.heap[w.heap.size + 1 + 1]? = some (.cells (Ls [0, 0, 0, 0]) 27 (0, 0)) ∧ wr.heap[w.heap.size + 1 + 1 + 1]? = some (.cells (Ls W) 68 (0, 0)) ∧ Below w.heap.size w wr) (fun s14 _ => 4 - (intOf s14).toNat)
  case atStart =>
    refine ⟨0, [0, 0, 0, 0, 0, 0, 0, 0], by omega, rfl, ⟨rfl, by intro x hx; simp at hx; subst hx; unfold Word; omega, fun t ht => ?_⟩, by simp [val], ?_, ?_, ?_, ?_, ((((Below.refl _ _).alloc (Nat.le_refl _) _).alloc (by simp) _).alloc (by simp; omega) _).alloc (by simp; omega) _⟩
    · match t with
      | 4 | 5 | 6 | 7 => rfl
      | t + 8 => rfl
    · rw [Below.heap_alloc _ _ _ (by simp <;> omega)]; exact heap_alloc3_0 w _ _ _
    · rw [Below.heap_alloc _ _ _ (by simp <;> omega)]; exact heap_alloc3_1 w _ _ _
    · rw [Below.heap_alloc _ _ _ (by simp)]; exact heap_alloc3_2 w _ _ _
    · have h := heap_alloc_new (((w.alloc (.cells (E v) 27)).alloc (.cells (E u) 27)).alloc (.cells (Ls [0, 0, 0, 0]) 27)) (.cells (Ls [0, 0, 0, 0, 0, 0, 0, 0]) 68)
      have e : (((w.alloc (.cells (E v) 27)).alloc (.cells (E u) 27)).alloc (.cells (Ls [0, 0, 0, 0]) 27)).heap.size = w.heap.size + 1 + 1 + 1 := by simp
      rwa [e] at h
  case round =>
    obtain ⟨i, W, hi, rfl, h8, hval, hb0, hb1, hb2, hb3, hB⟩ := hrel
    have H8 := Lib.hid h8
    have HVL := Lib.hid hval
    have HB0 := Lib.hid hb0
    have HB1 := Lib.hid hb1
    have HB2 := Lib.hid hb2
    have HB3 := Lib.hid hb3
    have HB := Lib.hid hB
    clear h8 hval hb0 hb1 hb2 hb3 hB
    by_cases hi4 : i < 4
    · have ha := (Four.lim v).get i
      have HT := Lib.hid (val_take_succ (lim v) i (by rw [lim_length]; omega))
      have QA := Lib.hid (Ls_get (lim v) i (by rw [lim_length]; omega))
      generalize (lim v).getD i 0 = a at ha HT QA
      go_wp2
      go_loopw [7, 17] (fun s7 s17 wi => ∃ (j : Nat) (c : Int) (W2 : List Int), j ≤ 4 ∧ s17 = .int .i64 j ∧ s7 = .int .u64 c ∧ Word c ∧ Eight i W2 ∧ val W2 + c * 18446744073709551616 ^ (i + j) = val W + a * val ((lim u).take j) * 18446744073709551616 ^ i ∧ wi.heap[w.heap.size]? = some (.cells (Ls (lim v)) 27 (0, 0)) ∧ wi.heap[w.heap.size + 1]? = some (.cells (Ls (lim u)) 27 (0, 0)) ∧ wi.heap[w.heap.size + 1 + 1]? = some (.cells (Ls [0, 0, 0, 0]) 27 (0, 0)) ∧ wi.heap[w.heap.size + 1 + 1 + 1]? = some (.cells (Ls W2) 68 (0, 0)) ∧ Below w.heap.size w wi) (fun _ s17 _ => 4 - (intOf s17).toNat)
      case atStart => exact ⟨0, 0, W, by omega, rfl, rfl, by unfold Word; omega, H8.out, by simp [val], HB0.out, HB1.out, HB2.out, HB3.out, HB.out⟩
      case round =>
        clear HB0 HB1 HB2 HB3 HB H8
        obtain ⟨j, c, W2, hj, rfl, rfl, hc, h8, hval, hb0, hb1, hb2, hb3, hB⟩ := hrel
        have H8 := Lib.hid h8
        have HVL2 := Lib.hid hval
        have HB0 := Lib.hid hb0
        have HB1 := Lib.hid hb1
        have HB2 := Lib.hid hb2
        have HB3 := Lib.hid hb3
        have HB := Lib.hid hB
        have HC := Lib.hid hc
        clear h8 hval hb0 hb1 hb2 hb3 hB hc
        by_cases hj4 : j < 4
        · have q0 : wr.cell? ⟨w.heap.size, i, none⟩ = some (.int .u64 a) := (blk_cell HB0.out i).trans QA.out
          have q1 := ls_cell HB1.out j (by rw [lim_length]; exact hj4)
          have q2 := ls_cell HB3.out (i + j) (by rw [H8.out.1]; omega)
          have hy := (Four.lim u).get j
          have hx := word_getD H8.out.2.1 (i + j)
          have HS := Lib.hid (step_mul i j hi4 hj4 H8.out.1 (lim_length u) a c (val W) HVL2.out)
          generalize (lim u).getD j 0 = y at q1 hy HS
          generalize W2.getD (i + j) 0 = x at q2 hx HS
          have HM := Lib.hid (mul64 a y ha hy)
          have hp := prod_words a y ha hy
          generalize a * y = p at HM hp HS
          have hc := HC.out
          unfold Word at hc hx
          obtain ⟨hi', hhi⟩ : ∃ hi', p / 18446744073709551616 = hi' := ⟨_, rfl⟩
          obtain ⟨lo, hlo⟩ : ∃ lo, p % 18446744073709551616 = lo := ⟨_, rfl⟩
          have hadd := add64 lo c 0 (by omega) hc.1 (by omega) (by omega)
          rw [Int.add_zero] at hadd
          obtain ⟨lo2, hlo2⟩ : ∃ s, (lo + c) % 18446744073709551616 = s := ⟨_, rfl⟩
          obtain ⟨k, hk⟩ : ∃ k, (lo + c) / 18446744073709551616 = k := ⟨_, rfl⟩
          have hadd2 := add64 x lo2 0 (by omega) (by omega) (by omega) (by omega)
          rw [Int.add_zero] at hadd2
          obtain ⟨s, hs⟩ : ∃ s, (x + lo2) % 18446744073709551616 = s := ⟨_, rfl⟩
          obtain ⟨k2, hk2⟩ : ∃ k, (x + lo2) / 18446744073709551616 = k := ⟨_, rfl⟩
          have e1 : (x + (p + c)) % 18446744073709551616 = s := by omega
          have e2 : (x + (p + c)) / 18446744073709551616 = hi' + k + k2 := by omega
          have hn : Word s ∧ Word (hi' + k + k2) := by unfold Word; omega
          have g1 : 0 ≤ hi' + k := by omega
          have g2 : hi' + k ≤ 18446744073709551615 := by omega
          have g3 : 0 ≤ hi' + k + k2 := by omega
          have g4 : hi' + k + k2 ≤ 18446744073709551615 := by omega
          rw [hlo2, hk] at hadd
          rw [hs, hk2] at hadd2
          rw [hhi, hlo] at HM
          rw [e1, e2] at HS
          have HN := Lib.hid hn
          clear hs hk hk2 hlo2 hn e1 e2 hp hhi hlo hc hx hy
          go_wp2_with fail
          go_quiet ((go_at_call 56; exact quiet_drawn (HM.out _)))
          have f0 := blk_frozen HB3.out (i + j)
          go_wp2
          go_roundw
          case rel =>
            refine ⟨j + 1, hi' + k + k2, W2.set (i + j) s, by omega, by go_num, rfl, HN.out.2, ⟨by simpa using H8.out.1, word_set H8.out.2.1 _ _ HN.out.1, fun t ht => by rw [getD_set_ne W2 (i + j) t s (by omega)]; exact H8.out.2.2 t ht⟩, HS.out, (blk_far HB0.out (by dsimp only; omega) _), (blk_far HB1.out (by dsimp only; omega) _), (blk_far HB2.out (by dsimp only; omega) _), ls_set HB3.out (i + j) s, pw_below_drewN (HB.out.setCell (by dsimp only; omega) _) nq⟩
          case measure => simp [intOf] <;> omega
        · obtain rfl : j = 4 := by omega
          have hz := H8.out.2.2 (i + 4) (Nat.le_refl _)
          have hset := val_set W2 (i + 4) c (by rw [H8.out.1]; omega)
          rw [hz, Int.sub_zero] at hset
          have hv2 := HVL2.out
          rw [← hset, List.take_of_length_le (by rw [lim_length]; omega), val_lim u HV.out.2.1 HV.out.2.2, HVL.out] at hv2
          have hfin : val (W2.set (i + 4) c) = val ((lim v).take (i + 1)) * u := by
            rw [hv2, HT.out]
            generalize (18446744073709551616 : Int) ^ i = P
            grind
          have HF := Lib.hid hfin
          have f0 := blk_frozen HB3.out (i + 4)
          have q2 := ls_cell HB3.out (i + 4) (by rw [H8.out.1]; omega)
          rw [hz] at q2
          clear hz hset hv2 hfin HVL2 HT
          go_wp2
          go_roundw
          case rel =>
            refine ⟨i + 1, W2.set (i + 4) c, by omega, by go_num, ⟨by simpa using H8.out.1, word_set H8.out.2.1 _ _ HC.out, fun t ht => by rw [getD_set_ne W2 (i + 4) t c (by omega)]; exact H8.out.2.2 t (by omega)⟩, HF.out, (blk_far HB0.out (by dsimp only; omega) _), (blk_far HB1.out (by dsimp only; omega) _), (blk_far HB2.out (by dsimp only; omega) _), ls_set HB3.out (i + 4) c, HB.out.setCell (by dsimp only; omega) _⟩
          case measure => simp [intOf] <;> omega
    · obtain rfl : i = 4 := by omega
      obtain ⟨w0, w1, w2, w3, w4, w5, w6, w7, hWe⟩ : ∃ w0 w1 w2 w3 w4 w5 w6 w7 : Int, W = [w0, w1, w2, w3, w4, w5, w6, w7] := by
        have h := H8.out.1
        match W, h with
        | [w0, w1, w2, w3, w4, w5, w6, w7], _ => exact ⟨w0, w1, w2, w3, w4, w5, w6, w7, rfl⟩
      subst hWe
      have q0 := ls_cell HB3.out 0 (by simp)
      have q1 := ls_cell HB3.out 1 (by simp)
      have q2 := ls_cell HB3.out 2 (by simp)
      have q3 := ls_cell HB3.out 3 (by simp)
      have q4 := ls_cell HB3.out 4 (by simp)
      have q5 := ls_cell HB3.out 5 (by simp)
      have q6 := ls_cell HB3.out 6 (by simp)
      have q7 := ls_cell HB3.out 7 (by simp)
      simp only [List.getD_cons_zero, List.getD_cons_succ] at q0 q1 q2 q3 q4 q5 q6 q7
      have hW8 := H8.out.2.1
      have hF1 : Four [w0, w1, w2, w3] := ⟨rfl, fun x hx => hW8 x (by simp at hx ⊢; omega)⟩
      have hF2 : Four [w4, w5, w6, w7] := ⟨rfl, fun x hx => hW8 x (by simp at hx ⊢; omega)⟩
      have hvl := HVL.out
      rw [List.take_of_length_le (by rw [lim_length]; omega), val_lim v HV.out.1.1 HV.out.1.2] at hvl
      have r1 := hF1.range
      have r2 := hF2.range
      have hsp : val [w0, w1, w2, w3, w4, w5, w6, w7] = val [w0, w1, w2, w3] + BB * val [w4, w5, w6, w7] := by simp only [val]; unfold BB; omega
      rw [hsp] at hvl
      have k1 : val [w0, w1, w2, w3] = (v * u) % BB := by unfold BB at *; omega
      have k2 : val [w4, w5, w6, w7] = (v * u) / BB := by unfold BB at *; omega
      have HE1 := Lib.hid (hF1.eq _ k1)
      have HE2 := Lib.hid (hF2.eq _ k2)
      have HR : Hid (0 ≤ (v * u) % BB ∧ (v * u) % BB < BB ∧ 0 ≤ (v * u) / BB ∧ (v * u) / BB < BB) := by rw [← k1, ← k2]; exact ⟨r1.1, r1.2, r2.1, r2.2⟩
      have HT2 := Lib.hid (timesV_range ((v * u) / BB) 38 HR.out.2.2.1 HR.out.2.2.2 (by omega) (by omega))
      clear hW8 hF1 hF2 hvl r1 r2 hsp k1 k2 HVL
      have ha0 := fun (W : World) (a : Option Addr) (c : Nat) => run_arrayAt (P := Try.prog) W 27 23 4 a 4 c Try.underlying27 (by omega)
      go_wp2_with fail
      go_cut [12, 13] (fun s12 s13 wx => ∃ b12 b13 : Nat, s12 = .pointer (some ⟨b12, 0, none⟩) ∧ s13 = .pointer (some ⟨b13, 0, none⟩) ∧ HS w [(b12, [w0, w1, w2, w3]), (b13, [w4, w5, w6, w7])] [w.heap.size + 1 + 1] wx ∧ w.heap.size + 1 + 1 < b12 ∧ w.heap.size + 1 + 1 < b13)
      case first =>
        have hsz := HB.out.size
        have hlt := blk_lt HB3.out
        have n0 := World.new_ne wr _ q0
        have n1 := World.new_ne wr _ q1
        have n2 := World.new_ne wr _ q2
        have n3 := World.new_ne wr _ q3
        have n4 := World.new_ne wr _ q4
        have n5 := World.new_ne wr _ q5
        have n6 := World.new_ne wr _ q6
        have n7 := World.new_ne wr _ q7
        go_region_held3 (fun w' => w'.cell? ⟨w.heap.size + 1 + 1 + 1, 0, none⟩ = some (.int .u64 w0) ∧ w'.cell? ⟨w.heap.size + 1 + 1 + 1, 1, none⟩ = some (.int .u64 w1) ∧ w'.cell? ⟨w.heap.size + 1 + 1 + 1, 2, none⟩ = some (.int .u64 w2) ∧ w'.cell? ⟨w.heap.size + 1 + 1 + 1, 3, none⟩ = some (.int .u64 w3) ∧ w'.cell? ⟨w.heap.size + 1 + 1 + 1, 4, none⟩ = some (.int .u64 w4) ∧ w'.cell? ⟨w.heap.size + 1 + 1 + 1, 5, none⟩ = some (.int .u64 w5) ∧ w'.cell? ⟨w.heap.size + 1 + 1 + 1, 6, none⟩ = some (.int .u64 w6) ∧ w'.cell? ⟨w.heap.size + 1 + 1 + 1, 7, none⟩ = some (.int .u64 w7)) (go_keep) (fail)
        all_goals (go_wp2_with fail; go_meet)
        all_goals first
          | exact ⟨wr.heap.size, wr.heap.size + 1, rfl, rfl, ⟨(((HB.out.alloc hsz _).alloc (by simp; omega) _)).drew, fun x hx => by
              simp only [List.mem_cons, List.not_mem_nil, or_false] at hx
              rcases hx with rfl | rfl
              · exact ⟨hsz, heap_alloc2_old wr _ _⟩
              · exact ⟨by dsimp only; omega, heap_alloc2_new wr _ _⟩, fun g hg => by
              simp only [List.mem_cons, List.not_mem_nil, or_false] at hg
              subst hg
              exact ⟨by omega, [0, 0, 0, 0], rfl, by
                show ((wr.alloc _).alloc _).heap[_]? = _
                rw [Below.heap_alloc _ _ _ (by simp; omega), Below.heap_alloc _ _ _ (by omega)]; exact HB2.out⟩⟩, by omega, by omega⟩
          | exact ⟨wr.heap.size + 1, wr.heap.size, rfl, rfl, ⟨(((HB.out.alloc hsz _).alloc (by simp; omega) _)).drew, fun x hx => by
              simp only [List.mem_cons, List.not_mem_nil, or_false] at hx
              rcases hx with rfl | rfl
              · exact ⟨by dsimp only; omega, heap_alloc2_new wr _ _⟩
              · exact ⟨hsz, heap_alloc2_old wr _ _⟩, fun g hg => by
              simp only [List.mem_cons, List.not_mem_nil, or_false] at hg
              subst hg
              exact ⟨by omega, [0, 0, 0, 0], rfl, by
                show ((wr.alloc _).alloc _).heap[_]? = _
                rw [Below.heap_alloc _ _ _ (by simp; omega), Below.heap_alloc _ _ _ (by omega)]; exact HB2.out⟩⟩, by omega, by omega⟩
      case rest =>
        clear q0 q1 q2 q3 q4 q5 q6 q7 HB HB0 HB1 HB2 HB3 H8 ha0
        obtain ⟨b12, b13, rfl, rfl, hS, hne1, hne2⟩ := hcut
        have HSH := Lib.hid hS
        clear hS
        go_wp2_with fail
        go_cut [] (fun wx => wx.heap[w.heap.size + 1 + 1]? = some (.cells (Ls (lim (mulV v u))) 27 (0, 0)) ∧ Below w.heap.size w wx)
        case first =>
          refine wp_region_held_drew (S := HS w [(b12, [w0, w1, w2, w3]), (b13, [w4, w5, w6, w7])] [w.heap.size + 1 + 1]) (by kernel_rfl) HSH.out.drew (fun hst => ?_)
          refine wpAnyH_take (i := 0) (oi := { dst := some 68, op := Op.load 27 (Operand.tmp 12), type := 27, pos := "field.go:112", after := #[], guard := none }) (v := .agg (Ls [w0, w1, w2, w3])) rfl (by kernel_rfl) (by kernel_rfl) (by kernel_rfl) (fun _ _ _ h => h) (yload (by rfl) _ rfl b12 [w0, w1, w2, w3] rfl (by simp) rfl) hst ?_
          simp only [Act.put, List.setIfInBounds_toArray, List.set_cons_zero, List.set_cons_succ]
          refine wpAnyH_take (i := 1) (oi := { dst := some 69, op := Op.load 27 (Operand.tmp 13), type := 27, pos := "field.go:112", after := #[], guard := none }) (v := .agg (Ls [w4, w5, w6, w7])) rfl (by kernel_rfl) (by kernel_rfl) (by kernel_rfl) (fun _ _ _ h => h) (yload (by rfl) _ rfl b13 [w4, w5, w6, w7] rfl (by simp) rfl) hst ?_
          simp only [Act.put, List.setIfInBounds_toArray, List.set_cons_zero, List.set_cons_succ]
          refine wpAnyH_ready (rs := [2]) (by kernel_rfl) (by simp) ?_
          refine AllReadyH.cons (o := { dst := some 70, op := Op.call { callee := Callee.value (Operand.func 31), args := #[Operand.tmp 69, Operand.const (Value.int IntKind.u32 38)], argTypes := #[27, 36] }, type := 27, pos := "field.go:112", after := #[{ on := 1, ground := Ground.data }], guard := none }) rfl (fun K hK => ?_) ?_
          · skip
            go_simp
            rw [HE2.out]
            refine (times_any ((v * u) / BB) 38 HR.out.2.2.1 HR.out.2.2.2 (by omega) (by omega) _).mono ?_
            rintro e ww3 ⟨rfl, hb2⟩
            refine hK.out _ _ (hst.call hb2) (fun hh1 => ?_)
            clear hK K
            refine wpAnyH_ready (rs := [3]) (by kernel_rfl) (by simp) ?_
            refine AllReadyH.cons (o := { dst := some 71, op := Op.call { callee := Callee.value (Operand.func 25), args := #[Operand.tmp 68, Operand.tmp 70], argTypes := #[27, 27] }, type := 27, pos := "field.go:112", after := #[{ on := 0, ground := Ground.data }, { on := 2, ground := Ground.data }, { on := 2, ground := Ground.chain }], guard := none }) rfl (fun K hK => ?_) ?_
            · skip
              go_simp
              rw [HE1.out]
              refine (add_any ((v * u) % BB) (timesV ((v * u) / BB) 38) HR.out.1 HR.out.2.1 HT2.out.1 HT2.out.2 _).mono ?_
              rintro e ww6 ⟨rfl, hb5⟩
              refine hK.out _ _ (hh1.call hb5) (fun hh4 => ?_)
              clear hK K
              refine wpAnyH_ready (rs := [4]) (by kernel_rfl) (by simp) ?_
              refine AllReadyH.cons (o := { dst := none, op := Op.store 27 (Operand.tmp 4) (Operand.tmp 71), type := 0, pos := "field.go:112", after := #[{ on := 3, ground := Ground.data }, { on := 3, ground := Ground.chain }, { on := 0, ground := Ground.phase }, { on := 1, ground := Ground.phase }, { on := 2, ground := Ground.phase }, { on := 3, ground := Ground.phase }], guard := none }) rfl (fun K hK => ?_) ?_
              · skip
                obtain ⟨q8a, q8l, q8b, q8c⟩ := hh4.slots (w.heap.size + 1 + 1) (by simp)
                refine step_store27 rfl _ _ rfl (w.heap.size + 1 + 1) (lim (mulV v u)) q8l rfl rfl q8c q8b rfl ?_
                refine hK.out _ _ (hh4.row (w.heap.size + 1 + 1) q8a (by simp; omega) _ rfl q8c) (fun hh7 => ?_)
                have hn9 := ls_row (cs := Ls (lim (mulV v u))) q8c
                clear hK K
                refine wpAnyH_done (by kernel_rfl) ?_ _
                go_wp2_with fail
                go_meet
                exact ⟨hn9, hh7.below⟩
              exact AllReadyH.nil
            exact AllReadyH.nil
          exact AllReadyH.nil
        case rest =>
          obtain ⟨hf, hB⟩ := hcut
          go_wp2_with fail
          refine ret27 rfl (w.heap.size + 1 + 1) (lim (mulV v u)) rfl hf rfl rfl ?_
          exact ⟨rfl, hB⟩

end Go.Proofs.Ytfklojheogidpaa
