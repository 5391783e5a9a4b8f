import Derived.Test.YtkcjgkfgjbhfnaaWirO
set_option linter.unusedVariables false
set_option linter.unusedSimpArgs false
namespace Go.Proofs.Ytkcjgkfgjbhfnaa
open Go.RowKit Go.Proofs.YtkcjgkfgjbhfnaaW.PrintWords Go.Proofs.YtkcjgkfgjbhfnaaW.PrintLast Go.Proofs.YtkcjgkfgjbhfnaaW.PrintMore
attribute [local go_sem ↓] Go.wp_at_zero Go.wp_at_succ

/-! ### awake -/
def z16 : List Int := List.replicate 16 0
def aP1 : Pk := ⟨2, 0, 1, 0, 0, 0, z16, 0, []⟩
def aP2 : Pk := ⟨1, 0, 0, 0, 0, 1, z16, 0, [7]⟩
theorem aP1_ok : aP1.ok := by refine ⟨?_, ?_, ?_, ?_, ?_, ?_, ?_⟩ <;> (try unfold I64) <;> unfold aP1 <;> dsimp only <;> omega
theorem aP2_ok : aP2.ok := by refine ⟨?_, ?_, ?_, ?_, ?_, ?_, ?_⟩ <;> (try unfold I64) <;> unfold aP2 <;> dsimp only <;> omega
theorem z16_bytes : Bytes z16 := fun x hx => by rw [(List.mem_replicate.1 hx).2]; exact ⟨by omega, by omega⟩
theorem aP1_put : putL aP1 = [2, 1, 0, 0, 0] ++ z16 := by decide +kernel
theorem aP2_sign : signL aP2 = [1, 0, 0, 0, 0, 0, 0, 0, 0, 0, 0, 1, 7] := by decide +kernel
theorem aP1_may : mayB aP1 = true := by decide +kernel
theorem make16 (W : World) : (Instr.makeSlice 37 (.int .i64 16) (.int .i64 16)).run Try.prog W = .ok (.slice (some ⟨W.heap.size, 0, none⟩) 16 16) (W.alloc (.cells (nums .u8 z16).toArray 5)) := by
  have h := run_make_row' (P := Try.prog) 37 5 (.int .u8 0) 1 Try.underlying37 info5' rfl .i64 .i64 16 (by omega) (by omega) W
  have e : madeCells #[Value.int IntKind.u8 0] 16 = (nums .u8 z16).toArray := by kernel_rfl
  rw [e] at h
  exact h
theorem lit_rd (w : World) (l : List Int) (n : Nat) (hl : l.length = n) (hb : Bytes l) (h9 : n ≤ 1000) : Rd (w.alloc (.cells (nums .u8 l).toArray 5)) (some ⟨w.heap.size, 0, none⟩) n l := by
  have h := Kd.R_reads' (Kd.R_of_own (enc := Value.int .u8) (h1 := fun _ => rfl) (ok := fun _ => True) (own_lit w w.heap.size 5 .u8 l (Nat.le_refl _) (by omega)) (fun _ _ => trivial))
  exact ⟨h.2.2, by omega, hb⟩
def aL : List Int := [2, 1, 0, 0, 0] ++ z16
def aS : List Int := [1, 0, 0, 0, 0, 0, 0, 0, 0, 0, 0, 1, 7]
theorem aL_bytes : Bytes aL := fun x hx => by
  rcases List.mem_append.1 hx with h | h
  · simp only [List.mem_cons, List.not_mem_nil, or_false] at h
    unfold Byte
    omega
  · exact z16_bytes x h
theorem aS_bytes : Bytes aS := fun x hx => by
  simp only [aS, List.mem_cons, List.not_mem_nil, or_false] at hx
  unfold Byte
  omega
theorem one_bytes (z : Int) (h0 : 0 ≤ z) (h1 : z ≤ 255) : Bytes [z] := fun x hx => by
  simp only [List.mem_cons, List.not_mem_nil, or_false] at hx
  subst hx
  exact ⟨h0, h1⟩
theorem lit_rd1 (w : World) (z : Int) (h0 : 0 ≤ z) (h1 : z ≤ 255) : Rd (w.alloc (.cells #[.int .u8 z] 5)) (some ⟨w.heap.size, 0, none⟩) 1 [z] := lit_rd w [z] 1 rfl (one_bytes z h0 h1) (by omega)
theorem lit_rd2 (w : World) (o : Obj) (z : Int) (h0 : 0 ≤ z) (h1 : z ≤ 255) : Rd ((w.alloc o).alloc (.cells #[.int .u8 z] 5)) (some ⟨w.heap.size + 1, 0, none⟩) 1 [z] := by
  have := lit_rd1 (w.alloc o) z h0 h1
  simpa using this
theorem good_5 : good [5] = false := by decide +kernel
theorem errn_5 : errn [5] = 40 := by decide +kernel
theorem getP_5 : getP [5] = zeroPk := by unfold getP; rw [good_5]; rfl
theorem good_a : good aL = true := by decide +kernel
theorem getP_a : getP aL = aP1 := by unfold getP; rw [if_pos good_a]; kernel_rfl
theorem errn_a : errn aL = 0 := by decide +kernel
theorem bytes_of {P : Pk} {l : List Int} (hb : Bytes l) (h : getP l = P) : Bytes P.mac ∧ Bytes P.body := by
  subst h
  unfold getP
  split
  · unfold parse
    split
    · exact ⟨fun x hx => hb x (List.mem_of_mem_take (List.mem_of_mem_drop hx)), fun x hx => hb x (List.mem_of_mem_drop hx)⟩
    · split
      · exact ⟨(fun x hx => hb x (List.mem_of_mem_drop hx)), (fun x hx => by cases hx)⟩
      · exact ⟨(fun x hx => by cases hx), (fun x hx => hb x (List.mem_of_mem_drop hx))⟩
  · exact ⟨(fun x hx => by cases hx), (fun x hx => by cases hx)⟩
theorem kput (w' : World) (b : Nat) (h : Rd w' (some ⟨b, 0, none⟩) 16 z16) : Calls Try.prog 20 #[.agg #[.int .i64 2, .int .u32 0, .int .u32 1, .int .i64 0, .int .i64 0, .int .i64 0, .slice (some ⟨b, 0, none⟩) 16 16, .int .u64 0, .slice none 0 0]] w'
    fun e w2 => ∃ A c, e = .returned (.tuple #[.slice A 21 c, .int .i64 0]) ∧ Rd w2 A c aL ∧ Below w'.heap.size w' w2 := by
  have := put_any aP1 aP1_ok (by decide) (by decide) w' (A := some ⟨b, 0, none⟩) (B := none) (c := 16) (d := 0) h (rd_nil w')
  rw [aP1_may] at this
  refine this.mono ?_
  rintro e w2 ⟨v, rfl, hO, hb⟩
  obtain ⟨A, c, rfl, hR⟩ := hO.rd (by rw [if_pos rfl, aP1_put]; exact aL_bytes)
  rw [if_pos rfl, aP1_put] at hR
  refine ⟨A, c, ?_, hR, hb⟩
  rw [if_pos rfl, aP1_put]
  rfl
theorem kget (w' : World) {A : Option Addr} {c : Nat} (h : Rd w' A c aL) : Calls Try.prog 25 #[.slice A 21 c] w'
    fun e w2 => ∃ B d C f, e = .returned (.tuple #[.agg #[.int .i64 2, .int .u32 0, .int .u32 1, .int .i64 0, .int .i64 0, .int .i64 0, .slice B 16 d, .int .u64 0, .slice C 0 f], .int .i64 0]) ∧ Below w'.heap.size w' w2 := by
  have := get_any A c aL w' h (by decide)
  refine this.mono ?_
  rintro e w2 ⟨B, d, C, f, rfl, _, _, hb⟩
  rw [getP_a, errn_a]
  exact ⟨B, d, C, f, rfl, hb⟩
theorem kget5 (w' : World) {b : Nat} (h : Rd w' (some ⟨b, 0, none⟩) 1 [5]) : Calls Try.prog 25 #[.slice (some ⟨b, 0, none⟩) 1 1] w'
    fun e w2 => ∃ B d C f, e = .returned (.tuple #[.agg #[.int .i64 0, .int .u32 0, .int .u32 0, .int .i64 0, .int .i64 0, .int .i64 0, .slice B 0 d, .int .u64 0, .slice C 0 f], .int .i64 40]) ∧ Below w'.heap.size w' w2 := by
  have := get_any (some ⟨b, 0, none⟩) 1 [5] w' h (by decide)
  refine this.mono ?_
  rintro e w2 ⟨B, d, C, f, rfl, _, _, hb⟩
  rw [getP_5, errn_5]
  exact ⟨B, d, C, f, rfl, hb⟩
theorem ksign (w' : World) (b b' : Nat) (h : Rd w' (some ⟨b, 0, none⟩) 16 z16) (h' : Rd w' (some ⟨b', 0, none⟩) 1 [7]) : Calls Try.prog 22 #[.agg #[.int .i64 1, .int .u32 0, .int .u32 0, .int .i64 0, .int .i64 0, .int .i64 1, .slice (some ⟨b, 0, none⟩) 16 16, .int .u64 0, .slice (some ⟨b', 0, none⟩) 1 1]] w'
    fun e w2 => ∃ A c, e = .returned (.slice A 13 c) ∧ Rd w2 A c aS ∧ Below w'.heap.size w' w2 := by
  have := sign_any aP2 aP2_ok (by decide) (by decide) w' (A := some ⟨b, 0, none⟩) (B := some ⟨b', 0, none⟩) (c := 16) (d := 1) h h'
  refine this.mono ?_
  rintro e w2 ⟨v, rfl, hO, hb⟩
  rw [aP2_sign] at hO
  obtain ⟨A, c, rfl, hR⟩ := hO.rd aS_bytes
  exact ⟨A, c, rfl, hR, hb⟩
theorem Rd.cell {w : World} {A : Option Addr} {c : Nat} {l : List Int} (h : Rd w A c l) (hl : 0 < l.length) : ∃ ad, A = some ad ∧ ∀ j, j < l.length → w.cell? (ad.add j) = some (.int .u8 (l.getD j 0)) := by
  obtain ⟨ad, e, _, hx⟩ := h.at hl
  exact ⟨ad, e, hx⟩
set_option maxHeartbeats 4000000 in
set_option maxRecDepth 100000 in
theorem awake_any (w : World) : Calls Try.prog 18 #[] w fun e w' => e = .returned (.bool true) ∧ Below w.heap.size w w' := by
  have hmk := make16
  obtain ⟨Z, hZ⟩ : ∃ Z, (nums .u8 z16).toArray = Z := ⟨_, rfl⟩
  have hrd : ∀ W : World, Rd (W.alloc (.cells Z 5)) (some ⟨W.heap.size, 0, none⟩) 16 z16 := fun W => by rw [← hZ]; exact lit_rd W z16 16 rfl z16_bytes (by omega)
  rw [hZ] at hmk
  have HRD := Lib.hid hrd
  clear hrd hZ
  go_enter Try.func18, Try.ntmps18
  go_upto_region 1 with fail
  go_cut [0, 1, 2] (fun s0 s1 s2 wx => s0 = .bool false ∧ s2 = .int .i64 0 ∧ ∃ A c, s1 = .slice A 21 c ∧ Rd wx A c aL ∧ Below w.heap.size w wx)
  case first =>
    go_wp2_with fail
    with_reducible refine (kput _ _ (HRD.out w)).mono ?_
    rintro e w1 ⟨A, c, rfl, hR, hb⟩
    have HR := Lib.hid hR
    have HB : Hid (Below w.heap.size w w1) := Below.trans ((Below.refl _ _).alloc (Nat.le_refl _) _) (hb.mono (by simp))
    clear hR hb
    go_wp2_with fail
    go_meet
    exact ⟨rfl, rfl, A, c, rfl, HR.out, HB.out⟩
  case rest =>
    obtain ⟨rfl, rfl, A, c, rfl, hR, hB⟩ := hcut
    have HR := Lib.hid hR
    have HB := Lib.hid hB
    clear hR hB
    go_upto_region 2 with fail
    go_cut [0, 1, 2, 3, 4] (fun s0 s1 s2 s3 s4 wx => s0 = .bool false ∧ s1 = .slice A 21 c ∧ s2 = .int .i64 0 ∧ s4 = .int .i64 0 ∧ Rd wx A c aL ∧ Below w.heap.size w wx ∧ ∃ b3, s3 = .pointer (some ⟨b3, 0, none⟩) ∧ wx.cell? ⟨b3, 2, none⟩ = some (.int .u32 1))
    case first =>
      go_wp2_with fail
      with_reducible refine (kget _ HR.out).mono ?_
      rintro e w1 ⟨B, d, C, f, rfl, hb⟩
      have HR1 := Lib.hid (HR.out.below hb)
      have HB1 := Lib.hid (HB.out.trans (hb.mono HB.out.size))
      clear hb
      go_wp2_with fail
      go_meet
      have hal : Below w1.heap.size w1 (w1.alloc (.cells #[.int .i64 2, .int .u32 0, .int .u32 1, .int .i64 0, .int .i64 0, .int .i64 0, .slice B 16 d, .int .u64 0, .slice C 0 f] 45)) := (Below.refl _ _).alloc (Nat.le_refl _) _
      exact ⟨rfl, rfl, rfl, rfl, HR1.out.below hal, HB1.out.trans (hal.mono HB1.out.size), w1.heap.size, rfl, (blk_cell (heap_alloc_new w1 _) 2).trans rfl⟩
    case rest =>
      clear HR HB
      obtain ⟨rfl, rfl, rfl, rfl, hR, hB, b3, rfl, h3⟩ := hcut
      have HR := Lib.hid hR
      have HB := Lib.hid hB
      have H3 := Lib.hid h3
      have hb3 := World.block_lt_of_cell? _ _ h3
      have HB3 := Lib.hid hb3
      clear hR hB h3 hb3
      go_upto_region 3 with fail
      go_cut [0, 1, 2, 3, 4, 6] (fun s0 s1 s2 s3 s4 s6 wx => s0 = .bool false ∧ s1 = .slice A 21 c ∧ s2 = .int .i64 0 ∧ s4 = .int .i64 0 ∧ s6 = .int .i64 40 ∧ Rd wx A c aL ∧ Below w.heap.size w wx ∧ s3 = .pointer (some ⟨b3, 0, none⟩) ∧ wx.cell? ⟨b3, 2, none⟩ = some (.int .u32 1))
      case first =>
        go_wp2_with fail
        with_reducible refine (kget5 _ (lit_rd1 _ 5 (by omega) (by omega))).mono ?_
        rintro e w1 ⟨B, d, C, f, rfl, hb⟩
        have hb1 := Below.trans ((Below.refl _ _).alloc (Nat.le_refl _) _) (hb.mono (by simp))
        have HR1 := Lib.hid (HR.out.below hb1)
        have HB1 := Lib.hid (HB.out.trans (hb1.mono HB.out.size))
        have H31 := Lib.hid ((hb1.cell (p := ⟨b3, 2, none⟩) HB3.out).trans H3.out)
        have HB31 : Hid (b3 < w1.heap.size) := Nat.lt_of_lt_of_le HB3.out hb1.size
        clear hb hb1
        go_wp2_with fail
        go_meet
        have hal : Below w1.heap.size w1 (w1.alloc (.cells #[.int .i64 0, .int .u32 0, .int .u32 0, .int .i64 0, .int .i64 0, .int .i64 0, .slice B 0 d, .int .u64 0, .slice C 0 f] 45)) := (Below.refl _ _).alloc (Nat.le_refl _) _
        exact ⟨rfl, rfl, rfl, rfl, rfl, HR1.out.below hal, HB1.out.trans (hal.mono HB1.out.size), rfl, (hal.cell (p := ⟨b3, 2, none⟩) HB31.out).trans H31.out⟩
      case rest =>
        clear HR HB H3 HB3
        obtain ⟨rfl, rfl, rfl, rfl, rfl, hR, hB, rfl, h3⟩ := hcut
        have HR := Lib.hid hR
        have HB := Lib.hid hB
        have H3 := Lib.hid h3
        have hb3 := World.block_lt_of_cell? _ _ h3
        have HB3 := Lib.hid hb3
        clear hR hB h3 hb3
        go_upto_region 4 with fail
        go_cut [0, 1, 2, 3, 4, 6, 7] (fun s0 s1 s2 s3 s4 s6 s7 wx => s0 = .bool false ∧ s1 = .slice A 21 c ∧ s2 = .int .i64 0 ∧ s4 = .int .i64 0 ∧ s6 = .int .i64 40 ∧ Rd wx A c aL ∧ Below w.heap.size w wx ∧ s3 = .pointer (some ⟨b3, 0, none⟩) ∧ wx.cell? ⟨b3, 2, none⟩ = some (.int .u32 1) ∧ ∃ D f, s7 = .slice D 13 f ∧ Rd wx D f aS)
        case first =>
          go_wp2_with fail
          with_reducible refine (ksign _ _ _ ((HRD.out _).below ?_) (lit_rd2 _ _ 7 (by omega) (by omega))).mono ?_
          · exact (Below.refl _ _).alloc (Nat.le_refl _) _
          rintro e w1 ⟨D, f, rfl, hD, hb⟩
          have hb1 := Below.trans (((Below.refl _ _).alloc (Nat.le_refl _) _).alloc (by simp) _) (hb.mono (by simp; omega))
          have HD := Lib.hid hD
          have HR1 := Lib.hid (HR.out.below hb1)
          have HB1 := Lib.hid (HB.out.trans (hb1.mono HB.out.size))
          have H31 := Lib.hid ((hb1.cell (p := ⟨b3, 2, none⟩) HB3.out).trans H3.out)
          clear hb hb1 hD
          go_wp2_with fail
          go_meet
          exact ⟨rfl, rfl, rfl, rfl, rfl, HR1.out, HB1.out, rfl, H31.out, D, f, rfl, HD.out⟩
        case rest =>
          clear HR HB H3 HB3
          obtain ⟨rfl, rfl, rfl, rfl, rfl, hR, hB, rfl, h3, D, f, rfl, hD⟩ := hcut
          have HB := Lib.hid hB
          obtain ⟨ad, rfl, hx⟩ := hR.cell (by decide)
          obtain ⟨ae, rfl, hy⟩ := hD.cell (by decide)
          have cA := hR.c
          have cD := hD.c
          have x0 := (hx 0 (by decide)).trans (congrArg (fun z => some (Value.int .u8 z)) (show aL.getD 0 0 = 2 by decide +kernel))
          have x1 := (hx 1 (by decide)).trans (congrArg (fun z => some (Value.int .u8 z)) (show aL.getD 1 0 = 1 by decide +kernel))
          have y12 := (hy 12 (by decide)).trans (congrArg (fun z => some (Value.int .u8 z)) (show aS.getD 12 0 = 7 by decide +kernel))
          rw [show ad.add 0 = ad from rfl] at x0
          rw [show ad.add 1 = ⟨ad.block, ad.off + 1, none⟩ from rfl] at x1
          rw [show ae.add 12 = ⟨ae.block, ae.off + 12, none⟩ from rfl] at y12
          clear hB hR hD hx hy cA cD
          go_wp2_with fail
          go_ret
          exact ⟨rfl, HB.out⟩
end Go.Proofs.Ytkcjgkfgjbhfnaa
