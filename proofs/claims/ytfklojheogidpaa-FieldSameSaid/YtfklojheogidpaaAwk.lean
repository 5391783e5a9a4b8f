import Derived.Test.YtfklojheogidpaaSub
import Derived.Test.YtfklojheogidpaaNum
set_option linter.unusedVariables false
set_option linter.unusedSimpArgs false
namespace Go.Proofs.Ytfklojheogidpaa
open Go.RowKit Go.Proofs.YtfklojheogidpaaW.PrintWords Go.Proofs.YtfklojheogidpaaW.PrintLast Go.Proofs.YtfklojheogidpaaW.PrintMore

/-! ### awake -/
theorem E_lit (n : Int) (h0 : 0 ≤ n) (h : n < 18446744073709551616) : E n = #[.int .u64 n, .int .u64 0, .int .u64 0, .int .u64 0] := by
  have e : lim n = [n, 0, 0, 0] := by
    simp only [lim, List.cons.injEq, and_true]
    refine ⟨?_, ?_, ?_, ?_⟩ <;> omega
  unfold E
  rw [e]
  rfl
def fs (i : Nat) : List Int := List.replicate i 255 ++ List.replicate (32 - i) 0
theorem fs_set (i : Nat) (h : i < 32) : (fs i).set i 255 = fs (i + 1) := by
  unfold fs
  rw [show 32 - i = (32 - (i + 1)) + 1 by omega, List.replicate_succ, List.set_append_right _ _ (by simp), List.length_replicate, Nat.sub_self, List.set_cons_zero, List.replicate_succ', List.append_assoc]
  rfl
theorem B8_set (l : List Int) (i : Nat) (x : Int) : (B8 l).setIfInBounds i (.int .u8 x) = B8 (l.set i x) := by
  simp [B8, nums, List.map_set]
theorem b8_cell {w : World} {g : Nat} {t : TypeId} {l : List Int} (h : w.heap[g]? = some (.cells (B8 l) t (0, 0))) (i : Nat) (hi : i < l.length) : w.cell? ⟨g, i, none⟩ = some (.int .u8 (l.getD i 0)) := by
  rw [blk_cell h i]
  simp [B8, nums, List.getD_eq_getElem?_getD, List.getElem?_eq_getElem hi]
theorem b8_set {w : World} {g : Nat} {t : TypeId} {l : List Int} (h : w.heap[g]? = some (.cells (B8 l) t (0, 0))) (i : Nat) (x : Int) : (w.setCell ⟨g, i, none⟩ (.int .u8 x)).heap[g]? = some (.cells (B8 (l.set i x)) t (0, 0)) := by
  rw [← B8_set]; exact blk_set h i _

set_option maxHeartbeats 4000000 in
set_option maxRecDepth 100000 in
theorem awake_any (w : World) : Calls Try.prog 20 #[] w fun e w' => e = .returned (.bool true) ∧ Below w.heap.size w w' := by
  go_enter Try.func20, Try.ntmps20
  go_upto_region 2 with fail
  go_cut [0, 1, 2] (fun s0 s1 s2 wx => s0 = .bool false ∧ s1 = .pointer (some ⟨w.heap.size, 0, none⟩) ∧ s2 = .int .i64 0 ∧ wx.heap[w.heap.size]? = some (.cells (B8 (fs 0)) 50 (0, 0)) ∧ Below w.heap.size w wx)
  case first =>
    go_wp2_with fail
    go_meet
    exact ⟨rfl, rfl, rfl, heap_alloc_new w _, (Below.refl w.heap.size w).alloc (Nat.le_refl _) _⟩
  case rest =>
    obtain ⟨rfl, rfl, rfl, hb0, hB⟩ := hcut
    have HB0 := Lib.hid hb0
    have HB := Lib.hid hB
    clear hb0 hB
    go_wp2_with fail
    go_loopw [2] (fun s2 wr => ∃ i : Nat, i ≤ 32 ∧ s2 = .int .i64 i ∧ wr.heap[w.heap.size]? = some (.cells (B8 (fs i)) 50 (0, 0)) ∧ Below w.heap.size w wr) (fun s2 _ => 32 - (intOf s2).toNat)
    case atStart => exact ⟨0, by omega, rfl, HB0.out, HB.out⟩
    case round =>
      clear HB0 HB
      obtain ⟨i, hi, rfl, hb0, hB⟩ := hrel
      have HB0 := Lib.hid hb0
      have HB := Lib.hid hB
      clear hb0 hB
      by_cases hi4 : i < 32
      · have q0 := b8_cell HB0.out i (by simp [fs]; omega)
        have f0 := blk_frozen HB0.out i
        go_wp2_with fail
        go_roundw
        case rel => exact ⟨i + 1, by omega, by go_num, by rw [← fs_set i hi4]; exact b8_set HB0.out i 255, HB.out.setCell (by dsimp only; omega) _⟩
        case measure => simp [intOf] <;> omega
      · obtain rfl : i = 32 := by omega
        go_upto_region 6 with fail
        go_cut [3] (fun s3 wx => ∃ g3 c, s3 = .slice (some ⟨g3, 0, none⟩) 32 c ∧ Kd.C (Kd.int .u8) wx (some ⟨g3, 0, none⟩) 32 (D 18) ∧ Below w.heap.size w wx)
        case first =>
          have hfs : fs 32 = List.replicate 32 255 := by simp [fs]
          have hbt : ∀ x ∈ List.replicate 32 (255 : Int), Byte x := fun x hx => by rw [(List.mem_replicate.1 hx).2]; exact ⟨by omega, by omega⟩
          have hdec : decV (List.replicate 32 255) = 57896044618658097711785492504343953926634992332820282019728792003956564819967 := by decide +kernel
          have hC := C_piece HB0.out 0 32 (by simp [fs]) (by simp [fs])
          rw [hfs] at hC
          have HC : Hid (Kd.C (Kd.int .u8) wr (some ⟨w.heap.size, 0, none⟩) 32 (List.replicate 32 255)) := hC
          have hcl : ∀ w', Kd.C (Kd.int .u8) w' (some ⟨w.heap.size, 0, none⟩) 32 (List.replicate 32 255) → Calls Try.prog 22 #[.slice (some ⟨w.heap.size, 0, none⟩) 32 32] w' fun e w2 => e = .returned (.agg (E 57896044618658097711785492504343953926634992332820282019728792003956564819967)) ∧ Below w'.heap.size w' w2 := fun w' h' => by
            rw [← hdec]
            exact decode_any _ 32 (List.replicate 32 255) hbt w' h'
          have HCL := Lib.hid hcl
          clear hfs hbt hdec hC hcl
          go_wp2_with fail
          refine (HCL.out _ HC.out).mono ?_
          rintro e w2 ⟨rfl, b2⟩
          have HB2 := Lib.hid (HB.out.trans (b2.mono HB.out.size))
          clear b2
          go_wp2_with fail
          refine (encode_any _ (by omega) (by unfold BB; omega) _).mono ?_
          rintro e w3 ⟨v3, rfl, ho, hb⟩
          obtain ⟨g3, c3, ec, _, _, _, _⟩ := Kd.R_form ho (by simp [bytesN_length])
          subst ec
          have HN := Lib.hid (Kd.R_reads' ho).2.2
          have HB3 := Lib.hid (below_step HB2.out hb)
          clear ho hb
          go_wp2_with fail
          go_meet
          exact ⟨g3, c3, rfl, HN.out, HB3.out⟩
        case rest =>
          obtain ⟨g3, c3, rfl, hC3, hB⟩ := hcut
          have HC3 := Lib.hid hC3
          clear HB HB0
          have HB := Lib.hid hB
          clear hC3 hB
          obtain ⟨S1, hS1⟩ : ∃ S1, subV 0 1 = S1 := ⟨_, rfl⟩
          have HSR := Lib.hid (show 0 ≤ S1 ∧ S1 < BB by rw [← hS1]; decide +kernel)
          have HSD : Hid (D S1 = D (PP - 1)) := by rw [← hS1]; exact D_eq (by decide +kernel)
          have hsub : ∀ w', Calls Try.prog 27 #[.agg #[.int .u64 0, .int .u64 0, .int .u64 0, .int .u64 0], .agg #[.int .u64 1, .int .u64 0, .int .u64 0, .int .u64 0]] w' fun e w2 => e = .returned (.agg (E S1)) ∧ Below w'.heap.size w' w2 := fun w' => by
            have := sub_any 0 1 (by omega) (by unfold BB; omega) (by omega) (by unfold BB; omega) w'
            rwa [E_lit 0 (by omega) (by omega), E_lit 1 (by omega) (by omega), hS1] at this
          have HSUB := Lib.hid hsub
          clear hsub hS1
          go_upto_region 7 with fail
          go_cut [3, 4] (fun s3 s4 wx => ∃ g4 c4, s3 = .slice (some ⟨g3, 0, none⟩) 32 c3 ∧ s4 = .slice (some ⟨g4, 0, none⟩) 32 c4 ∧ Kd.C (Kd.int .u8) wx (some ⟨g3, 0, none⟩) 32 (D 18) ∧ Kd.C (Kd.int .u8) wx (some ⟨g4, 0, none⟩) 32 (D (PP - 1)) ∧ Below w.heap.size w wx)
          case first =>
            go_wp2_with fail
            refine (HSUB.out _).mono ?_
            rintro e w2 ⟨rfl, b2⟩
            have HC3b := Lib.hid (Kd.C_below HC3.out b2)
            have HB2 := Lib.hid (HB.out.trans (b2.mono HB.out.size))
            clear b2
            go_wp2_with fail
            refine (encode_any _ HSR.out.1 HSR.out.2 _).mono ?_
            rintro e w3 ⟨v3, rfl, ho, hb⟩
            obtain ⟨g4, c4, ec, _, _, _, _⟩ := Kd.R_form ho (by simp [bytesN_length])
            subst ec
            have HN := Lib.hid (Kd.R_reads' ho).2.2
            have HC3c := Lib.hid (Kd.C_below HC3b.out hb)
            have HB3 := Lib.hid (below_step HB2.out hb)
            clear ho hb
            go_wp2_with fail
            go_meet
            exact ⟨g4, c4, rfl, rfl, HC3c.out, by have h := HN.out; change Kd.C _ _ _ _ (D S1) at h; rw [HSD.out] at h; exact h, HB3.out⟩
          case rest =>
            clear HC3 HB
            obtain ⟨g4, c4, rfl, rfl, hC3, hC4, hB⟩ := hcut
            have HC3 := Lib.hid hC3
            have HC4 := Lib.hid hC4
            have HB := Lib.hid hB
            clear hC3 hC4 hB HSUB HSD HSR
            obtain ⟨I3, hI3⟩ : ∃ I3, invV 3 = I3 := ⟨_, rfl⟩
            obtain ⟨M3, hM3⟩ : ∃ M3, mulV 3 I3 = M3 := ⟨_, rfl⟩
            have HIR := Lib.hid (show 0 ≤ I3 ∧ I3 < BB by rw [← hI3]; decide +kernel)
            have HMR : Hid (0 ≤ M3 ∧ M3 < BB) := by rw [← hM3]; exact range_mul ⟨by omega, by unfold BB; omega⟩ HIR.out
            have HMD : Hid (D M3 = D 1) := by rw [← hM3, ← hI3]; exact D_eq (by decide +kernel)
            have hinv : ∀ w', Calls Try.prog 34 #[.agg #[.int .u64 3, .int .u64 0, .int .u64 0, .int .u64 0]] w' fun e w2 => e = .returned (.agg (E I3)) ∧ Below w'.heap.size w' w2 := fun w' => by
              have := invert_any 3 ⟨by omega, by unfold BB; omega⟩ w'
              rwa [E_lit 3 (by omega) (by omega), hI3] at this
            have hmul : ∀ w', Calls Try.prog 29 #[.agg #[.int .u64 3, .int .u64 0, .int .u64 0, .int .u64 0], .agg (E I3)] w' fun e w2 => e = .returned (.agg (E M3)) ∧ Below w'.heap.size w' w2 := fun w' => by
              have := mul_any 3 I3 (by omega) (by unfold BB; omega) HIR.out.1 HIR.out.2 w'
              rwa [E_lit 3 (by omega) (by omega), hM3] at this
            have HINV := Lib.hid hinv
            have HMUL := Lib.hid hmul
            clear hinv hmul hI3 hM3
            go_upto_region 8 with fail
            go_cut [3, 4, 5] (fun s3 s4 s5 wx => ∃ g5 c5, s3 = .slice (some ⟨g3, 0, none⟩) 32 c3 ∧ s4 = .slice (some ⟨g4, 0, none⟩) 32 c4 ∧ s5 = .slice (some ⟨g5, 0, none⟩) 32 c5 ∧ Kd.C (Kd.int .u8) wx (some ⟨g3, 0, none⟩) 32 (D 18) ∧ Kd.C (Kd.int .u8) wx (some ⟨g4, 0, none⟩) 32 (D (PP - 1)) ∧ Kd.C (Kd.int .u8) wx (some ⟨g5, 0, none⟩) 32 (D 1) ∧ Below w.heap.size w wx)
            case first =>
              go_wp2_with fail
              refine (HINV.out _).mono ?_
              rintro e w2 ⟨rfl, b2⟩
              have HC3b := Lib.hid (Kd.C_below HC3.out b2)
              have HC4b := Lib.hid (Kd.C_below HC4.out b2)
              have HB2 := Lib.hid (HB.out.trans (b2.mono HB.out.size))
              clear b2
              go_wp2_with fail
              refine (HMUL.out _).mono ?_
              rintro e w3 ⟨rfl, b3⟩
              have HC3c := Lib.hid (Kd.C_below HC3b.out b3)
              have HC4c := Lib.hid (Kd.C_below HC4b.out b3)
              have HB3 := Lib.hid (HB2.out.trans (b3.mono HB2.out.size))
              clear b3
              go_wp2_with fail
              refine (encode_any _ HMR.out.1 HMR.out.2 _).mono ?_
              rintro e w4 ⟨v4, rfl, ho, hb⟩
              obtain ⟨g5, c5, ec, _, _, _, _⟩ := Kd.R_form ho (by simp [bytesN_length])
              subst ec
              have HN := Lib.hid (Kd.R_reads' ho).2.2
              have HC3d := Lib.hid (Kd.C_below HC3c.out hb)
              have HC4d := Lib.hid (Kd.C_below HC4c.out hb)
              have HB4 := Lib.hid (below_step HB3.out hb)
              clear ho hb
              go_wp2_with fail
              go_meet
              exact ⟨g5, c5, rfl, rfl, rfl, HC3d.out, HC4d.out, by have h := HN.out; change Kd.C _ _ _ _ (D M3) at h; rw [HMD.out] at h; exact h, HB4.out⟩
            case rest =>
              clear HC3 HC4 HB HINV HMUL HIR HMR HMD
              obtain ⟨g5, c5, rfl, rfl, rfl, hC3, hC4, hC5, hB⟩ := hcut
              have HC3 := Lib.hid hC3
              have HC4 := Lib.hid hC4
              have HC5 := Lib.hid hC5
              have HB := Lib.hid hB
              clear hC3 hC4 hC5 hB
              have hswap : ∀ w', Calls Try.prog 37 #[.int .i64 1, .agg #[.int .u64 1, .int .u64 0, .int .u64 0, .int .u64 0], .agg #[.int .u64 2, .int .u64 0, .int .u64 0, .int .u64 0]] w' fun e w2 => e = .returned (.tuple #[.agg (Ls (lim 2)), .agg (Ls (lim 1))]) ∧ Below w'.heap.size w' w2 := fun w' => by
                have := swap_on 1 2 w'
                have e1 := E_lit 1 (by omega) (by omega)
                have e2 := E_lit 2 (by omega) (by omega)
                show Calls Try.prog 37 #[.int .i64 1, .agg #[.int .u64 1, .int .u64 0, .int .u64 0, .int .u64 0], .agg #[.int .u64 2, .int .u64 0, .int .u64 0, .int .u64 0]] w' fun e w2 => e = .returned (.tuple #[.agg (E 2), .agg (E 1)]) ∧ Below w'.heap.size w' w2
                rw [← e1, ← e2]
                exact this
              have HSW := Lib.hid hswap
              clear hswap
              go_upto_region 11 with fail
              go_cut [0, 3, 4, 5, 6, 7] (fun s0 s3 s4 s5 s6 s7 wx => ∃ b6 b7, s0 = .bool false ∧ s3 = .slice (some ⟨g3, 0, none⟩) 32 c3 ∧ s4 = .slice (some ⟨g4, 0, none⟩) 32 c4 ∧ s5 = .slice (some ⟨g5, 0, none⟩) 32 c5 ∧ s6 = .pointer (some ⟨b6, 0, none⟩) ∧ s7 = .pointer (some ⟨b7, 0, none⟩) ∧ wx.heap[b6]? = some (.cells (Ls (lim 2)) 27 (0, 0)) ∧ wx.heap[b7]? = some (.cells (Ls (lim 1)) 27 (0, 0)) ∧ Kd.C (Kd.int .u8) wx (some ⟨g3, 0, none⟩) 32 (D 18) ∧ Kd.C (Kd.int .u8) wx (some ⟨g4, 0, none⟩) 32 (D (PP - 1)) ∧ Kd.C (Kd.int .u8) wx (some ⟨g5, 0, none⟩) 32 (D 1) ∧ Below w.heap.size w wx)
              case first =>
                go_wp2_with fail
                refine (HSW.out _).mono ?_
                rintro e w2 ⟨rfl, b2⟩
                have HC3b := Lib.hid (Kd.C_below HC3.out b2)
                have HC4b := Lib.hid (Kd.C_below HC4.out b2)
                have HC5b := Lib.hid (Kd.C_below HC5.out b2)
                have HB2 := Lib.hid (HB.out.trans (b2.mono HB.out.size))
                clear b2
                have HA6 := Lib.hid (heap_alloc2_old w2 (.cells (Ls [0, 0, 0, 0]) 27) (.cells (Ls [0, 0, 0, 0]) 27))
                have HA7 := Lib.hid (heap_alloc2_new w2 (.cells (Ls [0, 0, 0, 0]) 27) (.cells (Ls [0, 0, 0, 0]) 27))
                have HA7b := Lib.hid (blk_row (g := w2.heap.size) (cs := Ls (lim 2)) HA7.out (by omega))
                have HAB := Lib.hid (((Below.refl w2.heap.size w2).alloc (Nat.le_refl _) (.cells (Ls [0, 0, 0, 0]) 27)).alloc (by simp) (.cells (Ls [0, 0, 0, 0]) 27))
                go_wp2_with (first | (refine store27 rfl _ _ rfl w2.heap.size (lim 2) [0, 0, 0, 0] rfl rfl HA6.out rfl rfl ?_) | (refine store27 rfl _ _ rfl (w2.heap.size + 1) (lim 1) [0, 0, 0, 0] rfl rfl HA7b.out rfl rfl ?_))
                go_meet
                have hbb := below_setRow (below_setRow HAB.out (Nat.le_refl _) (Ls (lim 2))) (show w2.heap.size ≤ w2.heap.size + 1 by omega) (Ls (lim 1))
                exact ⟨w2.heap.size, w2.heap.size + 1, rfl, rfl, rfl, rfl, rfl, rfl, blk_row (ls_row HA6.out) (by omega), ls_row HA7b.out, Kd.C_below HC3b.out hbb, Kd.C_below HC4b.out hbb, Kd.C_below HC5b.out hbb, HB2.out.trans (hbb.mono HB2.out.size)⟩
              case rest =>
                clear HC3 HC4 HC5 HB HSW
                obtain ⟨b6, b7, rfl, rfl, rfl, rfl, rfl, rfl, h6, h7, hC3, hC4, hC5, hB⟩ := hcut
                have HB := Lib.hid hB
                clear hB
                obtain ⟨ad3, e3, hx3⟩ := (Kd.reads_of_C (d := (0 : Int)) hC3).2.2 (by omega)
                obtain ⟨ad4, e4, hx4⟩ := (Kd.reads_of_C (d := (0 : Int)) hC4).2.2 (by omega)
                obtain ⟨ad5, e5, hx5⟩ := (Kd.reads_of_C (d := (0 : Int)) hC5).2.2 (by omega)
                cases e3
                cases e4
                cases e5
                have y30 := (hx3 0 (by omega)).trans (congrArg (fun z => some (Value.int .u8 z)) (show (D 18).getD 0 0 = 18 by decide +kernel))
                have y31 := (hx3 1 (by omega)).trans (congrArg (fun z => some (Value.int .u8 z)) (show (D 18).getD 1 0 = 0 by decide +kernel))
                have y40 := (hx4 0 (by omega)).trans (congrArg (fun z => some (Value.int .u8 z)) (show (D (PP - 1)).getD 0 0 = 236 by decide +kernel))
                have y41 := (hx4 31 (by omega)).trans (congrArg (fun z => some (Value.int .u8 z)) (show (D (PP - 1)).getD 31 0 = 127 by decide +kernel))
                have y50 := (hx5 0 (by omega)).trans (congrArg (fun z => some (Value.int .u8 z)) (show (D 1).getD 0 0 = 1 by decide +kernel))
                have y51 := (hx5 31 (by omega)).trans (congrArg (fun z => some (Value.int .u8 z)) (show (D 1).getD 31 0 = 0 by decide +kernel))
                simp only [add_plain, Nat.zero_add] at y30 y31 y40 y41 y50 y51
                clear hx3 hx4 hx5 hC3 hC4 hC5
                have H6 := Lib.hid h6
                have H7 := Lib.hid h7
                clear h6 h7
                have l1 := E_lit 1 (by omega) (by omega)
                have l2 := E_lit 2 (by omega) (by omega)
                have l5 := E_lit 5 (by omega) (by omega)
                have l6 := E_lit 6 (by omega) (by omega)
                have l9 := E_lit 9 (by omega) (by omega)
                have l11 := E_lit 11 (by omega) (by omega)
                have l35 := E_lit 35 (by omega) (by omega)
                have l81 := E_lit 81 (by omega) (by omega)
                obtain ⟨a1, ha1⟩ : ∃ x, addV 5 6 = x := ⟨_, rfl⟩
                obtain ⟨a2, ha2⟩ : ∃ x, timesV 5 7 = x := ⟨_, rfl⟩
                obtain ⟨a3, ha3⟩ : ∃ x, mulV 9 9 = x := ⟨_, rfl⟩
                have r1 : 0 ≤ a1 ∧ a1 < BB := by rw [← ha1]; decide +kernel
                have r2 : 0 ≤ a2 ∧ a2 < BB := by rw [← ha2]; decide +kernel
                have r3 : 0 ≤ a3 ∧ a3 < BB := by rw [← ha3]; decide +kernel
                have c1 : ∀ w', Calls Try.prog 25 #[.agg #[.int .u64 5, .int .u64 0, .int .u64 0, .int .u64 0], .agg #[.int .u64 6, .int .u64 0, .int .u64 0, .int .u64 0]] w' fun e w2 => e = .returned (.agg (E a1)) ∧ Below w'.heap.size w' w2 := fun w' => by
                  have := add_any 5 6 (by omega) (by unfold BB; omega) (by omega) (by unfold BB; omega) w'
                  rwa [l5, l6, ha1] at this
                have c2 : ∀ w', Calls Try.prog 38 #[.agg (E a1), .agg #[.int .u64 11, .int .u64 0, .int .u64 0, .int .u64 0]] w' fun e w2 => e = .returned (.bool true) ∧ Below w'.heap.size w' w2 := fun w' => by
                  have := same_any a1 11 r1 ⟨by omega, by unfold BB; omega⟩ w'
                  rwa [l11, show decide (a1 % PP = 11 % PP) = true by rw [← ha1]; decide +kernel] at this
                have c3' : ∀ w', Calls Try.prog 31 #[.agg #[.int .u64 5, .int .u64 0, .int .u64 0, .int .u64 0], .int .u32 7] w' fun e w2 => e = .returned (.agg (E a2)) ∧ Below w'.heap.size w' w2 := fun w' => by
                  have := times_any 5 7 (by omega) (by unfold BB; omega) (by omega) (by omega) w'
                  rwa [l5, ha2] at this
                have c4' : ∀ w', Calls Try.prog 38 #[.agg (E a2), .agg #[.int .u64 35, .int .u64 0, .int .u64 0, .int .u64 0]] w' fun e w2 => e = .returned (.bool true) ∧ Below w'.heap.size w' w2 := fun w' => by
                  have := same_any a2 35 r2 ⟨by omega, by unfold BB; omega⟩ w'
                  rwa [l35, show decide (a2 % PP = 35 % PP) = true by rw [← ha2]; decide +kernel] at this
                have c5' : ∀ w', Calls Try.prog 33 #[.agg #[.int .u64 9, .int .u64 0, .int .u64 0, .int .u64 0]] w' fun e w2 => e = .returned (.agg (E a3)) ∧ Below w'.heap.size w' w2 := fun w' => by
                  have := square_any 9 ⟨by omega, by unfold BB; omega⟩ w'
                  rwa [l9, ha3] at this
                have c6 : ∀ w', Calls Try.prog 38 #[.agg (E a3), .agg #[.int .u64 81, .int .u64 0, .int .u64 0, .int .u64 0]] w' fun e w2 => e = .returned (.bool true) ∧ Below w'.heap.size w' w2 := fun w' => by
                  have := same_any a3 81 r3 ⟨by omega, by unfold BB; omega⟩ w'
                  rwa [l81, show decide (a3 % PP = 81 % PP) = true by rw [← ha3]; decide +kernel] at this
                have c7 : ∀ w', Calls Try.prog 38 #[.agg #[.int .u64 1, .int .u64 0, .int .u64 0, .int .u64 0], .agg #[.int .u64 2, .int .u64 0, .int .u64 0, .int .u64 0]] w' fun e w2 => e = .returned (.bool false) ∧ Below w'.heap.size w' w2 := fun w' => by
                  have := same_any 1 2 ⟨by omega, by unfold BB; omega⟩ ⟨by omega, by unfold BB; omega⟩ w'
                  rwa [l1, l2, show decide ((1 : Int) % PP = 2 % PP) = false by decide +kernel] at this
                have D1 := Lib.hid c1
                have D2 := Lib.hid c2
                have D3 := Lib.hid c3'
                have D4 := Lib.hid c4'
                have D5 := Lib.hid c5'
                have D6 := Lib.hid c6
                have D7 := Lib.hid c7
                clear c1 c2 c3' c4' c5' c6 c7 r1 r2 r3 l1 l2 l5 l6 l9 l11 l35 l81 ha1 ha2 ha3
                go_upto_region 12 with fail
                go_wp2_with fail
                refine (D1.out _).mono ?_
                rintro e w2 ⟨rfl, b2⟩
                have H6_0 := Lib.hid ((b2.block _ (blk_lt H6.out)).trans H6.out)
                have H7_0 := Lib.hid ((b2.block _ (blk_lt H7.out)).trans H7.out)
                have HB_0 := Lib.hid (HB.out.trans (b2.mono HB.out.size))
                clear b2 H6 H7 HB
                go_wp2_with fail
                refine (D2.out _).mono ?_
                rintro e w3 ⟨rfl, b2⟩
                have H6_1 := Lib.hid ((b2.block _ (blk_lt H6_0.out)).trans H6_0.out)
                have H7_1 := Lib.hid ((b2.block _ (blk_lt H7_0.out)).trans H7_0.out)
                have HB_1 := Lib.hid (HB_0.out.trans (b2.mono HB_0.out.size))
                clear b2 H6_0 H7_0 HB_0
                go_wp2_with fail
                refine (D3.out _).mono ?_
                rintro e w4 ⟨rfl, b2⟩
                have H6_2 := Lib.hid ((b2.block _ (blk_lt H6_1.out)).trans H6_1.out)
                have H7_2 := Lib.hid ((b2.block _ (blk_lt H7_1.out)).trans H7_1.out)
                have HB_2 := Lib.hid (HB_1.out.trans (b2.mono HB_1.out.size))
                clear b2 H6_1 H7_1 HB_1
                go_wp2_with fail
                refine (D4.out _).mono ?_
                rintro e w5 ⟨rfl, b2⟩
                have H6_3 := Lib.hid ((b2.block _ (blk_lt H6_2.out)).trans H6_2.out)
                have H7_3 := Lib.hid ((b2.block _ (blk_lt H7_2.out)).trans H7_2.out)
                have HB_3 := Lib.hid (HB_2.out.trans (b2.mono HB_2.out.size))
                clear b2 H6_2 H7_2 HB_2
                go_wp2_with fail
                refine (D5.out _).mono ?_
                rintro e w6 ⟨rfl, b2⟩
                have H6_4 := Lib.hid ((b2.block _ (blk_lt H6_3.out)).trans H6_3.out)
                have H7_4 := Lib.hid ((b2.block _ (blk_lt H7_3.out)).trans H7_3.out)
                have HB_4 := Lib.hid (HB_3.out.trans (b2.mono HB_3.out.size))
                clear b2 H6_3 H7_3 HB_3
                go_wp2_with fail
                refine (D6.out _).mono ?_
                rintro e w7 ⟨rfl, b2⟩
                have H6_5 := Lib.hid ((b2.block _ (blk_lt H6_4.out)).trans H6_4.out)
                have H7_5 := Lib.hid ((b2.block _ (blk_lt H7_4.out)).trans H7_4.out)
                have HB_5 := Lib.hid (HB_4.out.trans (b2.mono HB_4.out.size))
                clear b2 H6_4 H7_4 HB_4
                go_wp2_with fail
                refine (D7.out _).mono ?_
                rintro e w8 ⟨rfl, b2⟩
                have H6_6 := Lib.hid ((b2.block _ (blk_lt H6_5.out)).trans H6_5.out)
                have H7_6 := Lib.hid ((b2.block _ (blk_lt H7_5.out)).trans H7_5.out)
                have HB_6 := Lib.hid (HB_5.out.trans (b2.mono HB_5.out.size))
                clear b2 H6_5 H7_5 HB_5
                have q6 : w8.cell? ⟨b6, 0, none⟩ = some (.int .u64 2) := ls_cell H6_6.out 0 (by decide)
                have q7 : w8.cell? ⟨b7, 0, none⟩ = some (.int .u64 1) := ls_cell H7_6.out 0 (by decide)
                go_wp2_with fail
                go_ret
                exact ⟨rfl, HB_6.out⟩
end Go.Proofs.Ytfklojheogidpaa
