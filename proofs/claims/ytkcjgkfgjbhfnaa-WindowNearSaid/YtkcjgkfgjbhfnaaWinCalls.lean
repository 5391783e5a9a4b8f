import Derived.Test.YtkcjgkfgjbhfnaaWinLaw
set_option linter.unusedVariables false
namespace Go.Proofs.Ytkcjgkfgjbhfnaa
open Go.RowKit Go.Proofs.YtkcjgkfgjbhfnaaW.PrintWords

/-- Block b is a window to which the numbers of l came. -/
def WinAt (w : World) (b : Nat) (l : List Int) : Prop := ∃ s t c0 c1, w.heap[b]? = some (.cells (wblk s t c0 c1) 27 (0, 0)) ∧ Rep s t c0 c1 l
theorem WinAt.new (w : World) : WinAt (w.alloc (.cells #[.bool false, .int .u64 0, .int .u64 0, .int .u64 0] 27)) w.heap.size [] :=
  ⟨false, 0, 0, 0, heap_alloc_new w _, Rep.zero⟩
theorem WinAt.keep {w w' : World} {b : Nat} {l : List Int} (h : WinAt w b l) (hk : w'.heap[b]? = w.heap[b]?) : WinAt w' b l := by
  obtain ⟨s, t, c0, c1, hb, hr⟩ := h
  exact ⟨s, t, c0, c1, hk.trans hb, hr⟩
theorem WinAt.lt {w : World} {b : Nat} {l : List Int} (h : WinAt w b l) : b < w.heap.size := by
  obtain ⟨s, t, c0, c1, hb, hr⟩ := h
  exact blk_lt hb
theorem WinAt.rng {w : World} {b : Nat} {l : List Int} (h : WinAt w b l) : ∀ x ∈ l, 0 ≤ x ∧ x < 18446744073709551616 := by
  obtain ⟨s, t, c0, c1, hb, hr⟩ := h
  exact hr.rng

theorem check_list {b : Nat} {l : List Int} {w : World} (h : WinAt w b l) (n : Int) (h0 : 0 ≤ n) (h1 : n < 18446744073709551616) :
    Calls Try.prog 16 #[.pointer (some ⟨b, 0, none⟩), .int .u64 n] w fun e w' => e = .returned (.int .i64 (chk l n)) ∧ w = w' := by
  obtain ⟨s, t, c0, c1, hb, hr⟩ := h
  rw [← hr.check n h0]
  exact check_any b s t c0 c1 n w hb h0 h1 hr.top_range.1 hr.top_range.2

theorem mark_list {b : Nat} {l : List Int} {w : World} (h : WinAt w b l) (n : Int) (h0 : 0 ≤ n) (h1 : n < 18446744073709551616) :
    Calls Try.prog 12 #[.pointer (some ⟨b, 0, none⟩), .int .u64 n] w fun e w' => e = .returned (.int .i64 (chk l n)) ∧ WinAt w' b (if chk l n = 0 then l ++ [n] else l) ∧ OnlyB b w w' := by
  obtain ⟨s, t, c0, c1, hb, hr⟩ := h
  rw [← hr.check n h0]
  rcases checkF_two s t c0 c1 n with hc | hc
  · rw [hc, if_pos rfl]
    exact (mark_yes b s t c0 c1 n w hb h0 h1 hr.top_range.1 hr.top_range.2 hc).mono fun e w' ⟨he, h2, h3⟩ => ⟨he, ⟨_, _, _, _, h2, hr.mark n h0 h1 hc⟩, h3⟩
  · rw [hc, if_neg (by omega)]
    refine (mark_no b s t c0 c1 n w hb h0 h1 hr.top_range.1 hr.top_range.2 hc).mono fun e w' ⟨he, h2⟩ => ?_
    subst h2
    exact ⟨he, ⟨s, t, c0, c1, hb, hr⟩, OnlyB.refl _ _⟩

theorem top_list {b : Nat} {l : List Int} {w : World} (h : WinAt w b l) :
    Calls Try.prog 14 #[.pointer (some ⟨b, 0, none⟩)] w fun e w' => e = .returned (.tuple #[.int .u64 (topL l), .bool (decide (l ≠ []))]) ∧ Drawn0 w w' := by
  obtain ⟨s, t, c0, c1, hb, hr⟩ := h
  have hs : decide (l ≠ []) = s := by
    have := hr.some
    cases s
    · simp at this; simp [this]
    · simpa using this
  rw [hs, ← hr.top]
  exact top_any b s t c0 c1 w hb

theorem OnlyB.below {b B : Nat} {w0 w w' : World} (h : OnlyB b w w') (hB : Below B w0 w) (hb : B ≤ b) : Below B w0 w' :=
  hB.trans ⟨h.os, h.tape, h.output, Nat.le_of_eq h.size.symm, fun k hk => h.block k (by omega)⟩

set_option maxHeartbeats 1000000 in
theorem awake_any (w : World) :
    Calls Try.prog 11 #[] w fun e w' => e = .returned (.bool true) ∧ Below w.heap.size w w' := by
  have k1 : chk [] 5 = 0 := by decide
  have k2 : chk [5] 5 = 43 := by decide
  have k3 : chk [5] 4 = 0 := by decide
  have k4 : chk [5] 200 = 0 := by decide
  have k5 : chk [5, 200] 72 = 43 := by decide
  have k6 : chk [5, 200] 73 = 0 := by decide
  have k7 : topL [5, 200] = 200 := by decide
  have K1 := Lib.hid k1
  have K2 := Lib.hid k2
  have K3 := Lib.hid k3
  have K4 := Lib.hid k4
  have K5 := Lib.hid k5
  have K6 := Lib.hid k6
  have K7 := Lib.hid k7
  clear k1 k2 k3 k4 k5 k6 k7
  go_enter Try.func11, Try.ntmps11
  go_wp2_with fail
  refine (mark_list (l := []) (WinAt.new w) 5 (by omega) (by omega)).mono ?_
  rw [K1.out, if_pos rfl]
  rintro e w1 ⟨rfl, h1, o1⟩
  have B1 := o1.below ((Below.refl w.heap.size w).alloc (Nat.le_refl _) _) (Nat.le_refl _)
  clear o1
  have H1 := Lib.hid h1
  clear h1
  go_wp2_with fail
  refine (check_list (l := [5]) H1.out 5 (by omega) (by omega)).mono ?_
  rw [K2.out]
  rintro e w' ⟨rfl, rfl⟩
  go_wp2_with fail
  refine (check_list (l := [5]) H1.out 4 (by omega) (by omega)).mono ?_
  rw [K3.out]
  rintro e w' ⟨rfl, rfl⟩
  go_wp2_with fail
  refine (mark_list (l := [5]) H1.out 200 (by omega) (by omega)).mono ?_
  rw [K4.out, if_pos rfl]
  rintro e w2 ⟨rfl, h2, o2⟩
  have B2 := o2.below B1 (Nat.le_refl _)
  clear o2
  have H2 := Lib.hid h2
  clear h2
  go_wp2_with fail
  refine (top_list (l := [5, 200]) H2.out).mono ?_
  rw [K7.out]
  rintro e w3 ⟨rfl, hd⟩
  have B3 := B2.trans (hd.below.mono B2.size)
  have H3 := Lib.hid (WinAt.keep H2.out (hd.below.block _ H2.out.lt))
  clear hd
  go_wp2_with fail
  refine (check_list (l := [5, 200]) H3.out 72 (by omega) (by omega)).mono ?_
  rw [K5.out]
  rintro e w' ⟨rfl, rfl⟩
  go_wp2_with fail
  refine (check_list (l := [5, 200]) H3.out 73 (by omega) (by omega)).mono ?_
  rw [K6.out]
  rintro e w' ⟨rfl, rfl⟩
  go_wp2
  go_ret
  exact ⟨rfl, B3⟩

set_option maxHeartbeats 1000000 in
theorem none_any (n : Int) (w : World) (h0 : 0 ≤ n) (h1 : n < 18446744073709551616) :
    Calls Try.prog 5 #[.int .u64 n] w fun e w' => e = .returned (.bool true) ∧ Below w.heap.size w w' := by
  have k1 : chk [] n = 0 := by simp [chk, topL]; omega
  have k2 : chk [n] n = 43 := by simp [chk]
  have K1 := Lib.hid k1
  have K2 := Lib.hid k2
  clear k1 k2
  go_enter Try.func5, Try.ntmps5
  go_wp2_with fail
  refine (awake_any _).mono ?_
  rintro e w1 ⟨rfl, B1⟩
  go_wp2_with fail
  refine (top_nil _).mono ?_
  rintro e w' ⟨rfl, rfl⟩
  go_wp2_with fail
  refine (top_list (l := []) (WinAt.new w1)).mono ?_
  rintro e w3 ⟨rfl, hd⟩
  have B3 := (B1.alloc B1.size _).trans (hd.below.mono (by have := B1.size; simp; omega))
  have H3 := Lib.hid (WinAt.keep (WinAt.new w1) (hd.below.block _ (WinAt.new w1).lt))
  have hz := B1.size
  clear hd B1
  go_wp2_with fail
  refine (check_nil n _).mono ?_
  rintro e w' ⟨rfl, rfl⟩
  go_wp2_with fail
  refine (mark_nil n _).mono ?_
  rintro e w' ⟨rfl, rfl⟩
  go_wp2_with fail
  refine (check_list (l := []) H3.out n (by omega) (by omega)).mono ?_
  rw [K1.out]
  rintro e w' ⟨rfl, rfl⟩
  go_wp2_with fail
  refine (mark_list (l := []) H3.out n (by omega) (by omega)).mono ?_
  rw [K1.out, if_pos rfl]
  rintro e w4 ⟨rfl, h4, o4⟩
  have B4 := o4.below B3 (by omega)
  clear o4
  have H4 := Lib.hid h4
  clear h4
  go_wp2_with fail
  refine (mark_list (l := [n]) H4.out n (by omega) (by omega)).mono ?_
  rw [K2.out]
  rintro e w5 ⟨rfl, h5, o5⟩
  have B5 := o5.below B4 (by omega)
  clear o5 h5
  go_wp2
  go_ret
  exact ⟨rfl, B5⟩

end Go.Proofs.Ytkcjgkfgjbhfnaa
namespace Go.Proofs.Ytkcjgkfgjbhfnaa
open Go.RowKit
theorem none_walk (w : World) (a0 : Int) (b0 : 0 ≤ a0 ∧ a0 ≤ 18446744073709551615) :
    Calls Try.prog 5 #[.int .u64 a0] w fun e w' => e = .returned (.bool true) ∧ Below w.heap.size w w' := none_any a0 w b0.1 (by omega)
end Go.Proofs.Ytkcjgkfgjbhfnaa
