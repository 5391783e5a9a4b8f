import Derived.Test.YtfklojheogidpaaIs
set_option linter.unusedVariables false
set_option linter.unusedSimpArgs false
namespace Go.Proofs.Ytfklojheogidpaa
open Go.RowKit Go.Proofs.YtfklojheogidpaaW.PrintWords Go.Proofs.YtfklojheogidpaaW.PrintLast Go.Proofs.YtfklojheogidpaaW.PrintMore

/-! ### Num -/
theorem bytesN_snoc (n : Nat) : ∀ x : Int, bytesN (n + 1) x = bytesN n x ++ [x / 256 ^ n % 256] := by
  induction n with
  | zero => intro x; simp [bytesN]
  | succ n ih =>
    intro x
    have h1 : x / 256 / 256 ^ n = x / 256 ^ (n + 1) := by
      rw [Int.pow_succ, Int.mul_comm, Int.ediv_ediv_of_nonneg (by omega)]
    rw [bytesN, ih (x / 256), h1]
    rfl
theorem quo_step (x : Int) (k : Nat) : x / 256 ^ k / 256 = x / 256 ^ (k + 1) := by
  rw [Int.pow_succ, Int.ediv_ediv_of_nonneg (Int.le_of_lt (pow_pos' k))]
theorem quo_word {x : Int} (h : Word x) (k : Nat) : Word (x / 256 ^ k) := by
  have hp := pow_pos' k
  exact ⟨Int.ediv_nonneg h.1 (by omega), Int.lt_of_le_of_lt (Int.ediv_le_self _ h.1) h.2⟩
theorem Num_law (v : Int) (h : 0 ≤ v ∧ v < BB) : Ends (fun k => Ref.redanref05_Mod.f k (bytesN 32 v)) (D v) := by
  have hm := Mod_ok (bytesN 32 v) 255 (by omega) (by omega) (fun x hx => by have := bytesN_range 32 v x hx; omega) (by rw [bytesN_length]; omega)
  rw [bval_bytesN 32 v h.1 h.2] at hm
  exact hm

set_option maxHeartbeats 2000000 in
theorem num_any (v : Int) (h : 0 ≤ v ∧ v < BB) (w : World) :
    Calls Try.prog 24 #[.agg (E v)] w fun e w' => ∃ v0_ : Value, e = .returned v0_ ∧ Kd.R (Kd.int .i64) 3 w' w.heap.size (fun _ => True) v0_ (D v) ∧ Below w.heap.size w w' := by
  have HV := Lib.hid h
  have HW := Lib.hid (bytesN_words v)
  obtain ⟨km, hkm⟩ := Num_law v h
  have HM := Lib.hid (hkm km (Nat.le_refl _))
  have HWD := Lib.hid (Four.lim v).2
  have HLN := Lib.hid (lim_length v)
  clear h hkm
  go_enter Try.func24, Try.ntmps24
  go_upto_region 0 with fail
  go_cut [1, 2] (fun s1 s2 wx => s1 = .pointer (some ⟨w.heap.size, 0, none⟩) ∧ s2 = .slice none 0 0 ∧ wx.heap[w.heap.size]? = some (.cells (Ls (lim v)) 24 (0, 0)) ∧ Below w.heap.size w wx)
  case first =>
    go_wp2_with fail
    go_meet
    exact ⟨rfl, rfl, heap_alloc_new w _, (Below.refl w.heap.size w).alloc (Nat.le_refl _) _⟩
  case rest =>
    obtain ⟨rfl, rfl, hb0, hB⟩ := hcut
    have HB0 := Lib.hid hb0
    have HB := Lib.hid hB
    clear hb0 hB
    go_wp2_with fail
    go_loopw [3, 4] (fun s3 s4 wr => ∃ i : Nat, i ≤ 4 ∧ s4 = .int .i64 i ∧ Kd.R (Kd.int .i64) 3 wr w.heap.size (fun k => k ≠ w.heap.size) s3 ((((lim v).take i).map (bytesN 8)).flatten) ∧ wr.heap[w.heap.size]? = some (.cells (Ls (lim v)) 24 (0, 0)) ∧ Below w.heap.size w wr) (fun _ s4 _ => 4 - (intOf s4).toNat)
    case atStart => exact ⟨0, by omega, rfl, Kd.R_nil _ _ _ _ _, HB0.out, HB.out⟩
    case round =>
      clear HB HB0
      obtain ⟨i, hi, rfl, hO, hb0, hB⟩ := hrel
      have HO := Lib.hid hO
      have HB0 := Lib.hid hb0
      have HB := Lib.hid hB
      clear hO hb0 hB
      by_cases hi4 : i < 4
      · have q0 := ls_cell HB0.out i (by rw [HLN.out]; exact hi4)
        have hx := word_getD HWD.out i
        obtain ⟨x, hxx⟩ : ∃ x, (lim v).getD i 0 = x := ⟨_, rfl⟩
        rw [hxx] at q0 hx
        have HX := Lib.hid hx
        have HXX := Lib.hid hxx
        obtain ⟨L, hL⟩ : ∃ L, (((lim v).take i).map (bytesN 8)).flatten = L := ⟨_, rfl⟩
        rw [hL] at HO
        have hLL : L.length = 8 * i := by
          rw [← hL]
          have hall : ∀ m : List Int, ((m.map (bytesN 8)).flatten).length = 8 * m.length := by
            intro m
            induction m with
            | nil => rfl
            | cons a m ih => simp [bytesN_length, ih]; omega
          rw [hall, List.length_take, HLN.out]; omega
        have HL := Lib.hid hL
        have HLL := Lib.hid hLL
        clear hL hLL hx hxx
        have hdec : decide ((i : Int) < 4) = true := decide_eq_true (by omega)
        go_wp2_with fail
        try rw [hdec]
        go_loopw [3, 5, 6] (fun s3 s5 s6 wq => ∃ k : Nat, k ≤ 8 ∧ s6 = .int .i64 k ∧ s5 = .int .u64 (x / 256 ^ k) ∧ Kd.R (Kd.int .i64) 3 wq w.heap.size (fun k => k ≠ w.heap.size) s3 (L ++ bytesN k x) ∧ wq.heap[w.heap.size]? = some (.cells (Ls (lim v)) 24 (0, 0)) ∧ Below w.heap.size w wq) (fun _ _ s6 _ => 8 - (intOf s6).toNat)
        case atStart => exact ⟨0, by omega, rfl, by simp, by simpa [bytesN] using HO.out, HB0.out, HB.out⟩
        case round =>
          clear HO HB0 HB
          obtain ⟨k, hk, rfl, rfl, hO, hb0, hB⟩ := hrel
          have HO := Lib.hid hO
          have HB0 := Lib.hid hb0
          have HB := Lib.hid hB
          clear hO hb0 hB
          by_cases hk8 : k < 8
          · have hq := quo_word HX.out k
            have HQS := Lib.hid (quo_step x k)
            have HSN := Lib.hid (bytesN_snoc k x)
            have htm : wrap64 (Int.tmod (x / 256 ^ k) 256) = x / 256 ^ k % 256 := by
              unfold Word at hq
              rw [Int.tmod_eq_emod_of_nonneg hq.1, w64 (by omega)]
            have HTM := Lib.hid htm
            have HLEN := Lib.hid (bytesN_length k x)
            have htd : Int.tdiv (x / 256 ^ k) 256 = x / 256 ^ (k + 1) := by
              rw [Int.tdiv_eq_ediv_of_nonneg hq.1, quo_step]
            have HTD := Lib.hid htd
            have HWR : Hid (IntKind.u64.wrap (x / 256 ^ (k + 1)) = x / 256 ^ (k + 1)) := IntWalk.u64_in _ ⟨(quo_word HX.out (k + 1)).1, by have := (quo_word HX.out (k + 1)).2; omega⟩
            clear hq htm htd
            go_wp2_with (first | ((with_reducible refine gate_builtin (b := .append) (xs := #[.tmp 18, .tmp 22]) rfl ?_); at_builtin; refine Kd.R_append (Kd.int .i64) (w0 := w) w.heap.size rfl (.tmp 18) (.tmp 22) 29 3 (.int .i64 0) 8 rfl Try.underlying29 Ref.info3 rfl (by decide) (by omega) u3 _ (wrap64 (Int.tmod (x / 256 ^ k) 256)) [.int .i64 (wrap64 (Int.tmod (x / 256 ^ k) 256))] (fun k => k ≠ w.heap.size) (fun _ => False) rfl rfl rfl (fun _ hk => hk.elim) (fun k hk e => by have := blk_lt HB0.out; omega) HO.out HB.out HB.out.size ?aL ?_; (case aL => (have h1 := HLL.out; have h2 := HLEN.out; rw [List.length_append, h1, h2]; omega)); intro v4 w4 ho4 hb4 hg4 hat4; have hne : some w.heap.size ≠ u3.ownBlock := (fun e => HO.out.1 _ e.symm rfl); have HA := Lib.hid ((hg4.block _ (blk_lt HB0.out) hne).trans HB0.out); have HO4 := Lib.hid ho4; have HB4 := Lib.hid hb4; clear hne ho4 hb4 hg4 hat4))
            rw [HTD.out]
            go_roundw
            case rel => exact ⟨k + 1, by omega, by go_num, by rw [HWR.out], by have := HO4.out; rw [HTM.out, List.append_assoc, ← HSN.out] at this; exact this, HA.out, HB4.out⟩
            case measure => simp [intOf] <;> omega
          · obtain rfl : k = 8 := by omega
            have hnx : (((lim v).take (i + 1)).map (bytesN 8)).flatten = L ++ bytesN 8 x := by
              have hlt : i < (lim v).length := by rw [HLN.out]; exact hi4
              rw [List.take_succ_eq_append_getElem hlt, List.map_append, List.flatten_append, HL.out]
              congr 1
              have : (lim v)[i] = x := by
                rw [← HXX.out, List.getD_eq_getElem?_getD, List.getElem?_eq_getElem hlt]; rfl
              rw [this]
              simp
            have HNX := Lib.hid hnx
            clear hnx
            go_wp2_with fail
            go_roundw
            case rel => exact ⟨i + 1, by omega, by go_num, by rw [HNX.out]; exact HO.out, HB0.out, HB.out⟩
            case measure => simp [intOf] <;> omega
      · obtain rfl : i = 4 := by omega
        have hfin : (((lim v).take 4).map (bytesN 8)).flatten = bytesN 32 v := by
          rw [HW.out, List.take_of_length_le (by rw [HLN.out]; omega)]
          simp [lim]
        have hO := HO.out
        rw [hfin] at hO
        have HO2 := Lib.hid hO
        clear hO hfin HO
        obtain ⟨A, c, ec⟩ := Kd.R_slice HO2.out
        subst ec
        go_wp2_with fail
        refine (Ref.redanref05_Mod.calls km A c (bytesN 32 v) (D v) _ (Kd.R_reads' HO2.out).2.2 (Kd.R_reads' HO2.out).2.1 HM.out).mono ?_
        rintro e w2 ⟨v0, rfl, ho, hb⟩
        have HF := Lib.hid (Kd.R_lower ho (below_size HB.out))
        have HFB := Lib.hid (below_step HB.out hb)
        clear ho hb
        go_wp2_with fail
        go_ret
        exact ⟨_, rfl, HF.out, HFB.out⟩
end Go.Proofs.Ytfklojheogidpaa
