import Derived.Test.YtkcjgkfgjbhfnaaWinCalls
set_option linter.unusedVariables false
namespace Go.Proofs.Ytkcjgkfgjbhfnaa
open Go.RowKit Go.Proofs.YtkcjgkfgjbhfnaaW.PrintWords Go.Proofs.Ytkcjgkfgjbhfnaa.PWindowPlays

/-! ### The reference on lists -/
theorem rd_nat (l : List Int) (j : Nat) (h : j < l.length) : rd l (j : Int) = l[j] := by
  simp [rd, List.getD_eq_getElem?_getD, List.getElem?_eq_getElem h]
theorem ref_top_l (l : List Int) (hl : l.length ≤ 9223372036854775806) (d : Nat) : ∀ (j : Nat) (t : Int), j + d = l.length → 
    redanref20_Top.l0 (d + 1) l t j = some ((l.drop j).foldl max t, decide ((l.length : Int) > 0)) := by
  induction d with
  | zero =>
    intro j t hj
    simp only [redanref20_Top.l0]
    rw [if_neg (by omega), List.drop_of_length_le (by omega)]
    rfl
  | succ d ih =>
    intro j t hj
    have hlt : j < l.length := by omega
    rw [redanref20_Top.l0]
    rw [if_pos (by omega), if_pos (by omega), rd_nat l j hlt, show wrap64 ((j : Int) + 1) = ((j + 1 : Nat) : Int) by unfold wrap64; omega, ih (j + 1) _ (by omega), ih (j + 1) _ (by omega)]
    rw [List.drop_eq_getElem_cons hlt, List.foldl_cons]
    by_cases h : l[j] > t
    · rw [if_pos h, Int.max_eq_right (by omega)]
    · rw [if_neg h, Int.max_eq_left (by omega)]
theorem ref_top (l : List Int) (hl : l.length ≤ 9223372036854775806) : redanref20_Top.f (l.length + 1) l = some (topL l, decide (l ≠ [])) := by
  unfold redanref20_Top.f
  have h := ref_top_l l hl l.length 0 0 (by omega)
  rw [show ((0 : Nat) : Int) = 0 from rfl] at h
  rw [h]
  congr 2
  rw [decide_eq_decide]
  cases l with
  | nil => simp
  | cons x l => simp
theorem ref_check_l (l : List Int) (hl : l.length ≤ 9223372036854775806) (hr : ∀ x ∈ l, 0 ≤ x ∧ x < 18446744073709551616) (n : Int) (h0 : 0 ≤ n) (h1 : n < 18446744073709551616) (d : Nat) : ∀ j : Nat, j + d = l.length → 
    ∃ k, redanref20_Check.l0 k l n j = some (if n ∈ l.drop j then 43 else if n < topL l ∧ 128 ≤ topL l - n then 43 else 0) := by
  induction d with
  | zero =>
    intro j hj
    refine ⟨l.length + 2, ?_⟩
    rw [redanref20_Check.l0]
    rw [if_neg (by omega), at_rounds (redanref20_Top.mono _) (show l.length + 1 ≤ l.length + 1 by omega) (ref_top l hl), List.drop_of_length_le (by omega), if_neg (by simp)]
    simp only [Option.bind_some]
    by_cases h2 : n < topL l
    · have ht : topL l < 18446744073709551616 := by
        by_cases hn : l = []
        · subst hn; rw [topL_nil]; omega
        · exact (hr _ (topL_mem l (fun x hx => (hr x hx).1) hn)).2
      rw [if_pos h2, IntWalk.u64_in _ ⟨by omega, by omega⟩]
      by_cases h3 : 128 ≤ topL l - n
      · rw [if_pos h3, if_pos ⟨h2, h3⟩]
      · rw [if_neg h3, if_neg (by omega)]
    · rw [if_neg h2, if_neg (by omega)]
  | succ d ih =>
    intro j hj
    have hlt : j < l.length := by omega
    obtain ⟨k, hk⟩ := ih (j + 1) (by omega)
    refine ⟨k + 1, ?_⟩
    rw [redanref20_Check.l0]
    rw [if_pos (by omega), if_pos (by omega), rd_nat l j hlt, show wrap64 ((j : Int) + 1) = ((j + 1 : Nat) : Int) by unfold wrap64; omega, hk, List.drop_eq_getElem_cons hlt]
    by_cases h : l[j] = n
    · rw [if_pos h, if_pos (by rw [h]; exact List.mem_cons_self)]
    · rw [if_neg h]
      have : (n ∈ l[j] :: l.drop (j + 1)) ↔ n ∈ l.drop (j + 1) := by
        rw [List.mem_cons]
        exact ⟨fun h2 => h2.resolve_left (fun h3 => h h3.symm), .inr⟩
      simp only [this]
theorem ref_check (l : List Int) (hl : l.length ≤ 9223372036854775806) (hr : ∀ x ∈ l, 0 ≤ x ∧ x < 18446744073709551616) (n : Int) (h0 : 0 ≤ n) (h1 : n < 18446744073709551616) : ∃ k, redanref20_Check.f k l n = some (chk l n) := by
  obtain ⟨k, hk⟩ := ref_check_l l hl hr n h0 h1 l.length 0 (by omega)
  exact ⟨k, by unfold redanref20_Check.f chk; exact hk⟩
theorem chk_two (l : List Int) (n : Int) : chk l n = 0 ∨ chk l n = 43 := by
  unfold chk
  repeat' split
  all_goals first | exact .inl rfl | exact .inr rfl
theorem ref_mark (l : List Int) (hl : l.length ≤ 1000) (hr : ∀ x ∈ l, 0 ≤ x ∧ x < 18446744073709551616) (n : Int) (h0 : 0 ≤ n) (h1 : n < 18446744073709551616) : ∃ k, redanref20_Mark.f k l n = some (if chk l n = 0 then l ++ [n] else l, chk l n) := by
  obtain ⟨k, hk⟩ := ref_check l (by omega) hr n h0 h1
  refine ⟨k, ?_⟩
  unfold redanref20_Mark.f
  rw [hk]
  simp only [Option.bind_some]
  rcases chk_two l n with hc | hc
  · rw [hc, if_pos rfl, if_pos rfl, if_pos (by simp; omega)]
    simp only [List.nil_append]
    show (if l.length < 17592186044416 then _ else _) = _
    rw [if_pos (by omega)]
  · rw [hc, if_neg (by omega), if_neg (by omega)]

/-! ### Its contracts on lists -/
theorem rtop_list {w : World} {A : Option Addr} {c : Nat} {l : List Int} (hC : Kd.C (Kd.int .u64) w A l.length l) (hc : l.length ≤ c) (hl : l.length ≤ 1000) :
    Calls Try.prog 15 #[.slice A l.length c] w fun e w' => e = .returned (.tuple #[.int .u64 (topL l), .bool (decide (l ≠ []))]) ∧ Drawn0 w w' :=
  redanref20_Top.calls _ A c l _ _ w hC hc (ref_top l (by omega))
theorem rcheck_list {w : World} {A : Option Addr} {c : Nat} {l : List Int} (hC : Kd.C (Kd.int .u64) w A l.length l) (hc : l.length ≤ c) (hl : l.length ≤ 1000) (hr : ∀ x ∈ l, 0 ≤ x ∧ x < 18446744073709551616) (n : Int) (h0 : 0 ≤ n) (h1 : n < 18446744073709551616) :
    Calls Try.prog 17 #[.slice A l.length c, .int .u64 n] w fun e w' => e = .returned (.int .i64 (chk l n)) ∧ Drawn0 w w' := by
  obtain ⟨k, hk⟩ := ref_check l (by omega) hr n h0 h1
  exact redanref20_Check.calls k A c l n _ w hC hc hk
theorem rmark_list (P0 : Nat → Prop) (v : Value) {l : List Int} {w0 w : World} (hB : Below w0.heap.size w0 w) (hR : Kd.R (Kd.int .u64) 24 w w0.heap.size P0 v l) (hl : l.length ≤ 1000) (hr : ∀ x ∈ l, 0 ≤ x ∧ x < 18446744073709551616) (n : Int) (h0 : 0 ≤ n) (h1 : n < 18446744073709551616) :
    Calls Try.prog 13 #[v, .int .u64 n] w fun e w' => ∃ v0_ : Value, e = .returned (.tuple #[v0_, .int .i64 (chk l n)]) ∧ Kd.R (Kd.int .u64) 24 w' w0.heap.size (fun k_ => (P0 k_ ∨ w.heap.size ≤ k_)) v0_ (if chk l n = 0 then l ++ [n] else l) ∧ Below w0.heap.size w0 w' ∧ Kept w w' (fun k_ => P0 k_) := by
  obtain ⟨k, hk⟩ := ref_mark l hl hr n h0 h1
  exact redanref20_Mark.calls k P0 v l n _ _ w0 w hB hR hk

theorem quiet_drawn {P : Program} {f : FuncId} {args : Array Value} {w : World} {n : Nat} {v : Value}
    (h : Calls P f args (w.drewN n) fun e w' => e = .returned v ∧ Drawn0 (w.drewN n) w') : Calls P f args (w.drewN n) fun e w'' => e = .returned v ∧ ∃ m, w'' = w.drewN m :=
  h.mono fun _ _ ⟨he, ⟨⟨m, hm⟩⟩⟩ => ⟨he, n + m, by rw [hm, World.drewN_drewN]⟩
theorem quiet_eq {P : Program} {f : FuncId} {args : Array Value} {w : World} {n : Nat} {v : Value}
    (h : Calls P f args (w.drewN n) fun e w' => e = .returned v ∧ w.drewN n = w') : Calls P f args (w.drewN n) fun e w'' => e = .returned v ∧ ∃ m, w'' = w.drewN m :=
  h.mono fun _ _ ⟨he, hm⟩ => ⟨he, n, hm.symm⟩
theorem WinAt.drewN {w : World} {b : Nat} {l : List Int} (h : WinAt w b l) (n : Nat) : WinAt (w.drewN n) b l := h

theorem wrap_u64_range (x : Int) : 0 ≤ IntKind.u64.wrap x ∧ IntKind.u64.wrap x < 18446744073709551616 := by
  have : IntKind.u64.wrap x = x % 18446744073709551616 := by simp [IntKind.wrap, IntKind.bits, IntKind.signed]
  omega

set_option maxHeartbeats 4000000 in
set_option maxRecDepth 100000 in
theorem plays_walk (w : World) (A0 : Option Addr) (c0 : Nat) (l0 : List Int) (A1 : Option Addr) (c1 : Nat) (l1 : List Int)
    (hC0 : Kd.C (Kd.int .u64) w A0 l0.length l0) (hc0 : l0.length ≤ c0) (hy0 : l0.length * 8 ≤ 140737488351232) (hw0 : ∀ x ∈ l0, 0 ≤ x ∧ x ≤ 18446744073709551615) (hC1 : Kd.C (Kd.int .u64) w A1 l1.length l1) (hc1 : l1.length ≤ c1) (hy1 : l1.length * 8 ≤ 140737488351232) (hw1 : ∀ x ∈ l1, 0 ≤ x ∧ x ≤ 18446744073709551615) :
    Calls Try.prog 3 #[.slice A0 l0.length c0, .slice A1 l1.length c1] w fun e w' => e = .returned (.bool true) ∧ Below w.heap.size w w' := by
  have HC0 := Lib.hid hC0
  have HC1 := Lib.hid hC1
  have HW0 := Lib.hid hw0
  have HW1 := Lib.hid hw1
  clear hC0 hC1 hw0 hw1
  go_enter Try.func3, Try.ntmps3
  go_wp2_with fail
  refine (awake_any _).mono ?_
  rintro e w1 ⟨rfl, B1⟩
  have hz := B1.size
  have B2 := B1.alloc B1.size (.cells #[.bool false, .int .u64 0, .int .u64 0, .int .u64 0] 27)
  have hn := WinAt.new w1
  have HN := Lib.hid hn
  have HB := Lib.hid B2
  clear hn B1 B2
  go_wp2
  go_loopw [7, 8] (fun v i wr => ∃ (j : Nat) (l : List Int), j ≤ l0.length ∧ j ≤ 200 ∧ l.length ≤ j ∧ i = .int .i64 j ∧ WinAt wr w1.heap.size l ∧ Kd.R (Kd.int .u64) 24 wr w.heap.size (fun k => k ≠ w1.heap.size) v l ∧ Below w.heap.size w wr) (fun _ i _ => 200 - (intOf i).toNat)
  case atStart => exact ⟨0, [], by omega, by omega, by simp, rfl, HN.out, Kd.R_nil _ _ _ _ _, HB.out⟩
  case round =>
    obtain ⟨j, l, hj, hj2, hl, rfl, hw, hR, hB⟩ := hrel
    have HW := Lib.hid hw
    have HR := Lib.hid hR
    have HB1 := Lib.hid hB
    clear hw hR hB
    by_cases hlt : j < l0.length ∧ j < 200
    · obtain ⟨hlt1, hlt2⟩ := hlt
      obtain ⟨ad0, e0, hx0⟩ := Kd.at_int HC0.out (j : Int) (by omega) (by omega)
      cases e0
      have hxr := HW0.out l0[j] (List.getElem_mem hlt1)
      rw [rd_nat l0 j hlt1, Int.toNat_natCast] at hx0
      generalize l0[j] = x at hx0 hxr
      obtain ⟨hx1, hx2⟩ := hxr
      have CX : Hid (∀ W, Below w.heap.size w W → W.cell? (ad0.add j) = some (.int .u64 x)) := fun W hW => pw_cell_below hW hx0
      clear hx0
      have q1 := CX.out _ HB1.out
      go_wp2_with fail
      refine (mark_list HW.out x (by omega) (by omega)).mono ?_
      rintro e w3 ⟨rfl, h3, o3⟩
      have H3 := Lib.hid h3
      have HB3 := Lib.hid (o3.below HB1.out hz)
      have HR3 := Lib.hid (Kd.R_step HR.out (fun k hk _ => o3.block k hk))
      clear h3 o3 q1
      have q1 := CX.out _ HB3.out
      go_wp2_with fail
      refine (rmark_list _ _ HB3.out HR3.out (by omega) HW.out.rng x (by omega) (by omega)).mono ?_
      rintro e w4 ⟨v4, rfl, h4, b4, k4⟩
      have hlt3 := H3.out.lt
      have HR4 := Lib.hid (Kd.R_mono h4 (ok' := fun k => k ≠ w1.heap.size) (fun k hk => by rcases hk with hk | hk; exact hk; omega))
      have H4 := Lib.hid (H3.out.keep (k4.2 _ hlt3 (fun h => h rfl)))
      have HB4 := Lib.hid b4
      clear h4 b4 k4 q1 hlt3
      obtain ⟨l', hl'⟩ : ∃ l', (if chk l x = 0 then l ++ [x] else l) = l' := ⟨_, rfl⟩
      have hll : l'.length ≤ j + 1 := by
        rw [← hl']
        split
        · simp; omega
        · omega
      rw [hl'] at H4 HR4
      clear hl' H3 HR3
      go_wp2_with fail
      refine (top_list H4.out).mono ?_
      rintro e w5 ⟨rfl, d5⟩
      have HB5 := Lib.hid (HB4.out.trans (d5.below.mono HB4.out.size))
      have HR5 := Lib.hid (Kd.R_below HR4.out d5.below)
      have H5 := Lib.hid (H4.out.keep (d5.below.block _ H4.out.lt))
      clear d5
      obtain ⟨A5, c5, e5, hc5, hC5⟩ := Kd.R_reads HR5.out
      have HC5 := Lib.hid hC5
      clear hC5
      subst e5
      go_wp2_with fail
      refine (rtop_list HC5.out hc5 (by omega)).mono ?_
      rintro e w6 ⟨rfl, d6⟩
      have HB6 := Lib.hid (HB5.out.trans (d6.below.mono HB5.out.size))
      have HR6 := Lib.hid (Kd.R_below HR5.out d6.below)
      have H6 := Lib.hid (H5.out.keep (d6.below.block _ H5.out.lt))
      have HC6 := Lib.hid (Kd.C_below HC5.out d6.below)
      clear d6 HR5 H5 HC5 HR4 H4 HW HR
      have q1 := CX.out _ HB6.out
      go_wp2
      go_loopw [16] (fun i wi => ∃ (jj : Nat), jj ≤ l1.length ∧ jj ≤ 10 ∧ i = .int .i64 jj ∧ WinAt wi w1.heap.size l' ∧ Kd.C (Kd.int .u64) wi A5 l'.length l' ∧ Kd.R (Kd.int .u64) 24 wi w.heap.size (fun k => k ≠ w1.heap.size) (.slice A5 l'.length c5) l' ∧ Below w.heap.size w wi) (fun i _ => 10 - (intOf i).toNat)
      case atStart => exact ⟨0, by omega, by omega, rfl, H6.out, HC6.out, HR6.out, HB6.out⟩
      case round =>
        clear H6 HC6 HR6 HB6 q1
        obtain ⟨jj, hjj, hjj2, rfl, h6, hC6, hR6, hB6⟩ := hrel
        have q1 := CX.out _ hB6
        have H6 := Lib.hid h6
        have HC6 := Lib.hid hC6
        have HR6 := Lib.hid hR6
        have HB6 := Lib.hid hB6
        clear h6 hC6 hR6 hB6
        by_cases hlt : jj < l1.length ∧ jj < 10
        · obtain ⟨hlt3, hlt4⟩ := hlt
          obtain ⟨ad1, e1, hy0⟩ := Kd.at_int HC1.out (jj : Int) (by omega) (by omega)
          cases e1
          have hyr := HW1.out l1[jj] (List.getElem_mem hlt3)
          rw [rd_nat l1 jj hlt3, Int.toNat_natCast] at hy0
          generalize l1[jj] = y at hy0 hyr
          obtain ⟨hy1', hy2'⟩ := hyr
          have q2 := pw_cell_below HB6.out hy0
          clear hy0
          have hxy := wrap_u64_range (x + y)
          go_wp2_with fail
          go_quiet (first | (go_at_call 16; exact quiet_eq (check_list (WinAt.drewN H6.out _) _ (by omega) (by omega))) | (go_at_call 17; exact quiet_drawn (rcheck_list (Kd.C_drewN HC6.out _) hc5 (by omega) H6.out.rng _ (by omega) (by omega))))
          go_wp2
          go_roundw
          case rel => exact ⟨jj + 1, by omega, by omega, by go_num, WinAt.drewN H6.out _, Kd.C_drewN HC6.out _, Kd.R_drewN HR6.out _, pw_below_drewN HB6.out _⟩
          case measure => simp [intOf]; omega
        · have hnot : jj < l1.length → ¬ jj < 10 := fun h1 h2 => hlt ⟨h1, h2⟩
          clear hlt
          by_cases hlt5 : jj < l1.length
          all_goals
            go_wp2
            go_roundw
            case rel => exact ⟨j + 1, l', by omega, by omega, by omega, by go_num, H6.out, HR6.out, HB6.out⟩
            case measure => simp [intOf]; omega
    · have hnot : j < l0.length → ¬ j < 200 := fun h1 h2 => hlt ⟨h1, h2⟩
      clear hlt
      by_cases hlt5 : j < l0.length
      all_goals
        go_wp2
        go_ret
        exact ⟨rfl, HB1.out⟩

end Go.Proofs.Ytkcjgkfgjbhfnaa
