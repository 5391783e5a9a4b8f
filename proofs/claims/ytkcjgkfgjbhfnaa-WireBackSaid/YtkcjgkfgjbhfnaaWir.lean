import Derived.Test.YtkcjgkfgjbhfnaaRows
import Derived.Test.YtkcjgkfgjbhfnaaRw0
import Derived.WalkKit
import Derived.WalkSpells
import Derived.WalkLawsBesides
import Derived.BigQuiet
import Derived.Deep.QuietTactic
import Derived.Lib.Hide
import Derived.Lib.SliceRun
set_option linter.unusedVariables false
set_option linter.unusedSimpArgs false
namespace Go.Proofs.Ytkcjgkfgjbhfnaa
open Go.RowKit Go.Proofs.YtkcjgkfgjbhfnaaW.PrintWords Go.Proofs.YtkcjgkfgjbhfnaaW.PrintLast Go.Proofs.YtkcjgkfgjbhfnaaW.PrintMore

theorem info5' : (Try.prog.info? 5).map (fun i => (i.zero, i.size, i.bytes)) = some (some (.int .u8 0), 1, 1) := by kernel_rfl

/-! ### slices.Clone -/
set_option maxHeartbeats 1000000 in
theorem clone_any (A : Option Addr) (c : Nat) (l : List Int) (w : World) (hC : Kd.C (Kd.int .u8) w A l.length l) (hc : l.length ≤ c) (hl : l.length ≤ 100000) :
    Calls Try.prog 39 #[.slice A l.length c] w fun e w' => ∃ v, e = .returned v ∧ Kd.R (Kd.int .u8) 5 w' w.heap.size (fun _ => True) v l ∧ Below w.heap.size w w' := by
  cases A with
  | none =>
    have h0 : l = [] := by
      have := (Kd.reads_of_C (d := (0 : Int)) hC).2.2
      rcases Nat.eq_zero_or_pos l.length with h | h
      · exact List.length_eq_zero_iff.1 h
      · obtain ⟨ad, e, _⟩ := this h; cases e
    subst h0
    have hq := fun W : World => Lib.run_eql_slice_nil (P := Try.prog) W 37 5 none 0 c 0 0 Try.underlying37
    go_enter Try.func39, Try.ntmps39
    go_wp2
    go_ret
    exact ⟨_, rfl, Kd.R_nil _ _ _ _ _, Below.refl _ _⟩
  | some ad =>
    have HC := Lib.hid hC
    have HB : Hid (Below w.heap.size w (w.alloc (.cells #[] 5))) := (Below.refl w.heap.size w).alloc (Nat.le_refl _) _
    have HO : Hid (Kd.R (Kd.int .u8) 5 (w.alloc (.cells #[] 5)) w.heap.size (fun _ => True) (.slice (some ⟨w.heap.size, 0, none⟩) 0 0) []) :=
      Kd.R_of_own (own_lit w w.heap.size 5 .u8 [] (Nat.le_refl _) (by simp)) (fun _ _ => trivial)
    have HR : Hid (Kd.C (Kd.int .u8) (w.alloc (.cells #[] 5)) (some ad) l.length l) := Kd.C_below HC.out HB.out
    clear hC
    have hq := fun W : World => Lib.run_eql_slice_nil (P := Try.prog) W 37 5 (some ad) l.length c 0 0 Try.underlying37
    go_enter Try.func39, Try.ntmps39
    go_wp2_with ((with_reducible refine gate_builtin (b := .append) (xs := #[.tmp 5, .tmp 6]) rfl ?_); at_builtin; refine Kd.R_append_rows (Kd.int .u8) (w0 := w) w.heap.size rfl (.tmp 5) (.tmp 6) 37 5 (.int .u8 0) 1 rfl Try.underlying37 info5' rfl (by decide) (by omega) (.slice (some ⟨w.heap.size, 0, none⟩) 0 0) [] l (some ad) l.length c (fun _ => True) (fun _ => False) rfl rfl HO.out HR.out ?aK (fun _ h => h.elim) (fun _ _ => trivial) HB.out (by simp) (by simp; omega) ?_; (case aK => exact (by intro x cs h; exact h)); intro v1 w1 hR hB hg hat; rw [List.nil_append] at hR; have HR1 := Lib.hid hR; have HB1 := Lib.hid hB; clear hR hB hg hat)
    go_ret
    exact ⟨_, rfl, HR1.out, HB1.out⟩

end Go.Proofs.Ytkcjgkfgjbhfnaa
