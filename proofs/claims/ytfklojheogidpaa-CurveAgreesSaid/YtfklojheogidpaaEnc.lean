import Derived.Test.YtfklojheogidpaaRest
import Derived.Test.YtfklojheogidpaaSto
import Derived.Test.YtfklojheogidpaaReg
import Derived.Test.YtfklojheogidpaaWx
set_option linter.unusedVariables false
set_option linter.unusedSimpArgs false
namespace Go.Proofs.Ytfklojheogidpaa
open Go.RowKit Go.Proofs.YtfklojheogidpaaW.PrintWords Go.Proofs.YtfklojheogidpaaW.PrintLast Go.Proofs.YtfklojheogidpaaW.PrintMore

/-! ### The bytes of a number, the lowest first -/
def bytesN : Nat → Int → List Int
  | 0, _ => []
  | n + 1, x => x % 256 :: bytesN n (x / 256)
theorem bytesN_length (n : Nat) : ∀ x, (bytesN n x).length = n := by
  induction n with
  | zero => intro x; rfl
  | succ n ih => intro x; simp [bytesN, ih]
theorem bytesN_range (n : Nat) : ∀ x, ∀ y ∈ bytesN n x, 0 ≤ y ∧ y < 256 := by
  induction n with
  | zero => intro x y h; simp [bytesN] at h
  | succ n ih =>
    intro x y h
    rcases List.mem_cons.1 h with rfl | h
    · omega
    · exact ih _ y h
theorem bytesN_words (v : Int) : bytesN 32 v = bytesN 8 ((lim v).getD 0 0) ++ bytesN 8 ((lim v).getD 1 0) ++ bytesN 8 ((lim v).getD 2 0) ++ bytesN 8 ((lim v).getD 3 0) := by
  simp only [bytesN, lim, List.getD_cons_zero, List.getD_cons_succ, List.cons_append, List.nil_append, List.cons.injEq, and_true]
  refine ⟨?_, ?_, ?_, ?_, ?_, ?_, ?_, ?_, ?_, ?_, ?_, ?_, ?_, ?_, ?_, ?_, ?_, ?_, ?_, ?_, ?_, ?_, ?_, ?_, ?_, ?_, ?_, ?_, ?_, ?_, ?_, ?_⟩ <;> omega
theorem store8 (x : Int) (h : Word x) : Ref.words_Store.f 10 x 8 = some (bytesN 8 x) := by
  have h0 := h.1
  have h1 := h.2
  simp [Ref.words_Store.f, Ref.words_Store.l0, mn, mx, bytesN, shr, wrap64, IntKind.wrap, List.replicate, IntKind.signed, IntKind.bits]
  refine ⟨?_, ?_, ?_, ?_, ?_, ?_⟩ <;> omega

theorem index27 (x0 x1 x2 x3 : Int) (k : Nat) (hk : k < 4) (w : World) : (Instr.index 27 (.agg #[.int .u64 x0, .int .u64 x1, .int .u64 x2, .int .u64 x3]) (.int .i64 k)).run Try.prog w = .ok (.int .u64 ([x0, x1, x2, x3].getD k 0)) w := by
  have h23 : ∀ w, (sizeOf 23).run Try.prog w = .ok 1 w := fun w => by kernel_rfl
  have hk4 : k = 0 ∨ k = 1 ∨ k = 2 ∨ k = 3 := by omega
  rcases hk4 with rfl | rfl | rfl | rfl
  all_goals (unfold Instr.index; simp [run_underlying Try.underlying27, h23, part, asIntOf])

set_option maxHeartbeats 2000000 in
theorem encode_any (v : Int) (hv0 : 0 ≤ v) (hv1 : v < BB) (w : World) :
    Calls Try.prog 39 #[.agg (E v)] w fun e w' => ∃ v0_ : Value, e = .returned v0_ ∧ Kd.R (Kd.int .u8) 5 w' w.heap.size (fun _ => True) v0_ (bytesN 32 (v % PP)) ∧ Below w.heap.size w w' := by
  have hbw := bytesN_words (v % PP)
  obtain ⟨r, hr⟩ : ∃ r, v % PP = r := ⟨_, rfl⟩
  rw [hr] at hbw ⊢
  have hlw := (Four.lim r).2
  obtain ⟨x0, x1, x2, x3, hx⟩ : ∃ a b c d, lim r = [a, b, c, d] := ⟨_, _, _, _, rfl⟩
  rw [hx] at hbw hlw
  simp only [List.getD_cons_zero, List.getD_cons_succ] at hbw
  have hE : E (v % PP) = #[.int .u64 x0, .int .u64 x1, .int .u64 x2, .int .u64 x3] := by rw [hr]; unfold E; rw [hx]; rfl
  have HE := Lib.hid hE
  have HW := Lib.hid hlw
  have HBW := Lib.hid hbw
  clear hr hbw hx hE hlw
  go_enter Try.func39, Try.ntmps39
  go_upto_region 0 with fail
  go_cut [1, 2] (fun s1 s2 wx => s1 = .pointer (some ⟨w.heap.size, 0, none⟩) ∧ s2 = .slice none 0 0 ∧ HS w [(w.heap.size, lim v)] [] wx)
  case first =>
    go_wp2_with fail
    go_meet
    refine ⟨rfl, rfl, (Below.refl w.heap.size w).alloc (Nat.le_refl _) _, fun x hx => ?_, fun g hg => by cases hg⟩
    simp only [List.mem_cons, List.not_mem_nil, or_false] at hx
    subst hx
    exact ⟨Nat.le_refl _, heap_alloc_new w _⟩
  case rest =>
    obtain ⟨rfl, rfl, hS⟩ := hcut
    have HSH := Lib.hid hS
    clear hS
    go_wp2_with (refine load27 rfl _ rfl w.heap.size (lim v) rfl (HSH.out.get _ _ (by simp)) rfl ?_)
    refine (rest_any v hv0 hv1 _).mono ?_
    rintro e w2 ⟨rfl, b2⟩
    rw [HE.out]
    have HB := Lib.hid (HSH.out.below.trans (b2.mono HSH.out.below.size))
    clear b2 HSH
    go_wp2_with fail
    go_loopw [3, 8] (fun s3 s8 wr => ∃ k : Nat, k ≤ 4 ∧ s8 = .int .i64 k ∧ Kd.R (Kd.int .u8) 5 wr w.heap.size (fun _ => True) s3 ((([x0, x1, x2, x3].take k).map (bytesN 8)).flatten) ∧ Below w.heap.size w wr) (fun _ s8 _ => 4 - (intOf s8).toNat)
    case atStart => exact ⟨0, by omega, rfl, Kd.R_nil _ _ _ _ _, HB.out⟩
    case round =>
      clear HB
      obtain ⟨k, hk, rfl, hO, hB⟩ := hrel
      have HO := Lib.hid hO
      have HB := Lib.hid hB
      clear hO hB
      have hk5 : k = 0 ∨ k = 1 ∨ k = 2 ∨ k = 3 ∨ k = 4 := by omega
      rcases hk5 with rfl | rfl | rfl | rfl | rfl
      · have HS8 := Lib.hid (store8 x0 (HW.out x0 (by simp)))
        have hix := index27 x0 x1 x2 x3 0 (by omega)
        simp only [List.getD_cons_zero, List.getD_cons_succ, Int.cast_ofNat_Int, Int.ofNat_zero, Int.natCast_one] at hix
        go_wp2_with fail
        refine (Ref.words_Store.calls 10 x0 8 _ _ HS8.out).mono ?_
        rintro e w3 ⟨v3, rfl, ho, hb⟩
        have HO2 := Lib.hid (Kd.R_mono (ok' := fun _ => True) (Kd.R_elder' HO.out (Kd.R_base ho) hb) (fun _ _ => trivial))
        have HN := Lib.hid (Kd.R_lower (Kd.R_new' ho (Kd.R_lt HO.out)) (below_size HB.out))
        have HB2 := Lib.hid (below_step HB.out hb)
        clear HO HB ho hb
        obtain ⟨A, c, ec⟩ := Kd.R_slice HN.out
        subst ec
        go_wp2_with (first | ((with_reducible refine gate_builtin (b := .append) (xs := #[.tmp 11, .tmp 13]) rfl ?_); at_builtin; refine Kd.R_append_rows (Kd.int .u8) (w0 := w) w.heap.size rfl (.tmp 11) (.tmp 13) 22 5 (.int .u8 0) 1 rfl Try.underlying22 Ref.info5 rfl (by decide) (by omega) _ _ (bytesN 8 x0) _ _ _ (fun _ => True) (fun _ => False) rfl rfl HO2.out (Kd.R_reads' HN.out).2.2 (fun _ _ h => h) (fun _ h => h.elim) (fun _ _ => trivial) HB2.out (below_size HB2.out) ?aL ?_; (case aL => (simp [bytesN_length]; done)); intro v4 w4 ho4 hb4 hg4 hat4; clear hg4 hat4; have HO4 := Lib.hid ho4; have HB4 := Lib.hid hb4; clear ho4 hb4))
        go_roundw
        case rel => exact ⟨1, by omega, rfl, by have := HO4.out; simpa using this, HB4.out⟩
        case measure => simp [intOf]
      · have HS8 := Lib.hid (store8 x1 (HW.out x1 (by simp)))
        have hix := index27 x0 x1 x2 x3 1 (by omega)
        simp only [List.getD_cons_zero, List.getD_cons_succ, Int.cast_ofNat_Int, Int.ofNat_zero, Int.natCast_one] at hix
        go_wp2_with fail
        refine (Ref.words_Store.calls 10 x1 8 _ _ HS8.out).mono ?_
        rintro e w3 ⟨v3, rfl, ho, hb⟩
        have HO2 := Lib.hid (Kd.R_mono (ok' := fun _ => True) (Kd.R_elder' HO.out (Kd.R_base ho) hb) (fun _ _ => trivial))
        have HN := Lib.hid (Kd.R_lower (Kd.R_new' ho (Kd.R_lt HO.out)) (below_size HB.out))
        have HB2 := Lib.hid (below_step HB.out hb)
        clear HO HB ho hb
        obtain ⟨A, c, ec⟩ := Kd.R_slice HN.out
        subst ec
        go_wp2_with (first | ((with_reducible refine gate_builtin (b := .append) (xs := #[.tmp 11, .tmp 13]) rfl ?_); at_builtin; refine Kd.R_append_rows (Kd.int .u8) (w0 := w) w.heap.size rfl (.tmp 11) (.tmp 13) 22 5 (.int .u8 0) 1 rfl Try.underlying22 Ref.info5 rfl (by decide) (by omega) _ _ (bytesN 8 x1) _ _ _ (fun _ => True) (fun _ => False) rfl rfl HO2.out (Kd.R_reads' HN.out).2.2 (fun _ _ h => h) (fun _ h => h.elim) (fun _ _ => trivial) HB2.out (below_size HB2.out) ?aL ?_; (case aL => (simp [bytesN_length]; done)); intro v4 w4 ho4 hb4 hg4 hat4; clear hg4 hat4; have HO4 := Lib.hid ho4; have HB4 := Lib.hid hb4; clear ho4 hb4))
        go_roundw
        case rel => exact ⟨2, by omega, rfl, by have := HO4.out; simpa using this, HB4.out⟩
        case measure => simp [intOf]
      · have HS8 := Lib.hid (store8 x2 (HW.out x2 (by simp)))
        have hix := index27 x0 x1 x2 x3 2 (by omega)
        simp only [List.getD_cons_zero, List.getD_cons_succ, Int.cast_ofNat_Int, Int.ofNat_zero, Int.natCast_one] at hix
        go_wp2_with fail
        refine (Ref.words_Store.calls 10 x2 8 _ _ HS8.out).mono ?_
        rintro e w3 ⟨v3, rfl, ho, hb⟩
        have HO2 := Lib.hid (Kd.R_mono (ok' := fun _ => True) (Kd.R_elder' HO.out (Kd.R_base ho) hb) (fun _ _ => trivial))
        have HN := Lib.hid (Kd.R_lower (Kd.R_new' ho (Kd.R_lt HO.out)) (below_size HB.out))
        have HB2 := Lib.hid (below_step HB.out hb)
        clear HO HB ho hb
        obtain ⟨A, c, ec⟩ := Kd.R_slice HN.out
        subst ec
        go_wp2_with (first | ((with_reducible refine gate_builtin (b := .append) (xs := #[.tmp 11, .tmp 13]) rfl ?_); at_builtin; refine Kd.R_append_rows (Kd.int .u8) (w0 := w) w.heap.size rfl (.tmp 11) (.tmp 13) 22 5 (.int .u8 0) 1 rfl Try.underlying22 Ref.info5 rfl (by decide) (by omega) _ _ (bytesN 8 x2) _ _ _ (fun _ => True) (fun _ => False) rfl rfl HO2.out (Kd.R_reads' HN.out).2.2 (fun _ _ h => h) (fun _ h => h.elim) (fun _ _ => trivial) HB2.out (below_size HB2.out) ?aL ?_; (case aL => (simp [bytesN_length]; done)); intro v4 w4 ho4 hb4 hg4 hat4; clear hg4 hat4; have HO4 := Lib.hid ho4; have HB4 := Lib.hid hb4; clear ho4 hb4))
        go_roundw
        case rel => exact ⟨3, by omega, rfl, by have := HO4.out; simpa using this, HB4.out⟩
        case measure => simp [intOf]
      · have HS8 := Lib.hid (store8 x3 (HW.out x3 (by simp)))
        have hix := index27 x0 x1 x2 x3 3 (by omega)
        simp only [List.getD_cons_zero, List.getD_cons_succ, Int.cast_ofNat_Int, Int.ofNat_zero, Int.natCast_one] at hix
        go_wp2_with fail
        refine (Ref.words_Store.calls 10 x3 8 _ _ HS8.out).mono ?_
        rintro e w3 ⟨v3, rfl, ho, hb⟩
        have HO2 := Lib.hid (Kd.R_mono (ok' := fun _ => True) (Kd.R_elder' HO.out (Kd.R_base ho) hb) (fun _ _ => trivial))
        have HN := Lib.hid (Kd.R_lower (Kd.R_new' ho (Kd.R_lt HO.out)) (below_size HB.out))
        have HB2 := Lib.hid (below_step HB.out hb)
        clear HO HB ho hb
        obtain ⟨A, c, ec⟩ := Kd.R_slice HN.out
        subst ec
        go_wp2_with (first | ((with_reducible refine gate_builtin (b := .append) (xs := #[.tmp 11, .tmp 13]) rfl ?_); at_builtin; refine Kd.R_append_rows (Kd.int .u8) (w0 := w) w.heap.size rfl (.tmp 11) (.tmp 13) 22 5 (.int .u8 0) 1 rfl Try.underlying22 Ref.info5 rfl (by decide) (by omega) _ _ (bytesN 8 x3) _ _ _ (fun _ => True) (fun _ => False) rfl rfl HO2.out (Kd.R_reads' HN.out).2.2 (fun _ _ h => h) (fun _ h => h.elim) (fun _ _ => trivial) HB2.out (below_size HB2.out) ?aL ?_; (case aL => (simp [bytesN_length]; done)); intro v4 w4 ho4 hb4 hg4 hat4; clear hg4 hat4; have HO4 := Lib.hid ho4; have HB4 := Lib.hid hb4; clear ho4 hb4))
        go_roundw
        case rel => exact ⟨4, by omega, rfl, by have := HO4.out; simpa using this, HB4.out⟩
        case measure => simp [intOf]
      · go_wp2_with fail
        go_ret
        exact ⟨_, rfl, by have := HO.out; rw [HBW.out]; simpa using this, HB.out⟩

end Go.Proofs.Ytfklojheogidpaa
