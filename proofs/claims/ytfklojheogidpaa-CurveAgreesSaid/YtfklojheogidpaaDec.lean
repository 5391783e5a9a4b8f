import Derived.Test.YtfklojheogidpaaEnc
import Derived.Laws.CopyOwn
set_option linter.unusedVariables false
set_option linter.unusedSimpArgs false
namespace Go.Proofs.Ytfklojheogidpaa
open Go.RowKit Go.Proofs.YtfklojheogidpaaW.PrintWords Go.Proofs.YtfklojheogidpaaW.PrintLast Go.Proofs.YtfklojheogidpaaW.PrintMore

/-! ### Decode -/
def bval : List Int → Int
  | [] => 0
  | x :: l => x + 256 * bval l
def pad32 (l : List Int) : List Int := (l ++ List.replicate 32 0).take 32
def decV (l : List Int) : Int := bval (pad32 l) % HH
def Byte (x : Int) : Prop := 0 ≤ x ∧ x < 256
def B8 (l : List Int) : Array Value := (nums .u8 l).toArray
theorem pad32_length (l : List Int) : (pad32 l).length = 32 := by simp [pad32]
theorem pad32_byte {l : List Int} (h : ∀ x ∈ l, Byte x) : ∀ x ∈ pad32 l, Byte x := by
  intro x hx
  rcases List.mem_append.1 (List.mem_of_mem_take hx) with h1 | h1
  · exact h x h1
  · rw [(List.mem_replicate.1 h1).2]; exact ⟨by omega, by omega⟩
theorem splice_pad (l : List Int) : splice (List.replicate 32 (Value.int .u8 0)) 0 (nums .u8 (l.take 32)) = nums .u8 (pad32 l) := by
  unfold splice pad32 nums
  rw [List.take_zero, List.nil_append, List.take_append, List.map_append]
  congr 1
  rw [List.drop_replicate, List.take_replicate, List.map_replicate]
  congr 1
  simp
  omega
theorem C_piece {w : World} {g : Nat} {t : TypeId} {l : List Int} (h : w.heap[g]? = some (.cells (B8 l) t (0, 0))) (o n : Nat) (hn : o + n ≤ l.length) (hl : l.length ≤ 9223372036854775807) : Kd.C (Kd.int .u8) w (some ⟨g, o, none⟩) n ((l.drop o).take n) := by
  refine Kd.C_of_reads (d := (0 : Int)) ⟨by simp; omega, by omega, fun _ => ⟨_, rfl, fun j hj => ?_⟩⟩
  have := blk_cell h (o + j)
  rw [show (⟨g, o, none⟩ : Addr).add j = ⟨g, o + j, none⟩ by simp [Addr.add]]
  rw [this]
  simp [B8, nums, List.getD_eq_getElem?_getD, List.getElem?_take, List.getElem?_drop, hj, List.getElem?_eq_getElem (show o + j < l.length by omega)]
theorem or64 (i : Nat) (hi : i ≤ 64) (x z : Int) (hx : 0 ≤ x) (hx1 : x < 2 ^ i) (hx2 : x < 2 ^ 64) (hz : 0 ≤ z) (hz1 : z % 2 ^ i = 0) (hz2 : z < 2 ^ 64) : bits .or .u64 x z = x + z := by
  have h : bits .or .u64 x z = bits .or .u64 z x := by simp only [bits, BitVec.or_comm]
  rw [h, bits_join .u64 64 (by decide) (fun n h0 h1 => IntWalk.u64_in n ⟨h0, by omega⟩) i z x hz hz1 hz2 hx hx1 hx2]
  omega
theorem load8 (l : List Int) (hl : l.length = 8) (hb : ∀ x ∈ l, Byte x) : Ref.words_Load.f 10 l = some (bval l) := by
  match l, hl with
  | [a, b, c, d, e, f, g, h], _ =>
    have k_a : 0 ≤ a ∧ a < 256 := hb a (by simp)
    have k_b : 0 ≤ b ∧ b < 256 := hb b (by simp)
    have k_c : 0 ≤ c ∧ c < 256 := hb c (by simp)
    have k_d : 0 ≤ d ∧ d < 256 := hb d (by simp)
    have k_e : 0 ≤ e ∧ e < 256 := hb e (by simp)
    have k_f : 0 ≤ f ∧ f < 256 := hb f (by simp)
    have k_g : 0 ≤ g ∧ g < 256 := hb g (by simp)
    have k_h : 0 ≤ h ∧ h < 256 := hb h (by simp)
    clear hb
    simp [Ref.words_Load.f, Ref.words_Load.l0, mn, mx, shl, rd, wrap64, IntKind.wrap, IntKind.signed, IntKind.bits, bval]
    rw [show a % 18446744073709551616 = a by omega, show b % 18446744073709551616 * 256 % 18446744073709551616 = b * 256 by omega, show c % 18446744073709551616 * 65536 % 18446744073709551616 = c * 65536 by omega, show d % 18446744073709551616 * 16777216 % 18446744073709551616 = d * 16777216 by omega, show e % 18446744073709551616 * 4294967296 % 18446744073709551616 = e * 4294967296 by omega, show f % 18446744073709551616 * 1099511627776 % 18446744073709551616 = f * 1099511627776 by omega, show g % 18446744073709551616 * 281474976710656 % 18446744073709551616 = g * 281474976710656 by omega, show h % 18446744073709551616 * 72057594037927936 % 18446744073709551616 = h * 72057594037927936 by omega]
    rw [or64 0 (by omega) (0) a (by omega) (by omega) (by omega) (by omega) (by omega) (by omega)]
    rw [or64 8 (by omega) (0 + a) (b * 256) (by omega) (by omega) (by omega) (by omega) (by omega) (by omega)]
    rw [or64 16 (by omega) (0 + a + b * 256) (c * 65536) (by omega) (by omega) (by omega) (by omega) (by omega) (by omega)]
    rw [or64 24 (by omega) (0 + a + b * 256 + c * 65536) (d * 16777216) (by omega) (by omega) (by omega) (by omega) (by omega) (by omega)]
    rw [or64 32 (by omega) (0 + a + b * 256 + c * 65536 + d * 16777216) (e * 4294967296) (by omega) (by omega) (by omega) (by omega) (by omega) (by omega)]
    rw [or64 40 (by omega) (0 + a + b * 256 + c * 65536 + d * 16777216 + e * 4294967296) (f * 1099511627776) (by omega) (by omega) (by omega) (by omega) (by omega) (by omega)]
    rw [or64 48 (by omega) (0 + a + b * 256 + c * 65536 + d * 16777216 + e * 4294967296 + f * 1099511627776) (g * 281474976710656) (by omega) (by omega) (by omega) (by omega) (by omega) (by omega)]
    rw [or64 56 (by omega) (0 + a + b * 256 + c * 65536 + d * 16777216 + e * 4294967296 + f * 1099511627776 + g * 281474976710656) (h * 72057594037927936) (by omega) (by omega) (by omega) (by omega) (by omega) (by omega)]
    omega
def w8 (l : List Int) (i : Nat) : Int := bval ((l.drop (8 * i)).take 8)
theorem bval_range (l : List Int) (hb : ∀ x ∈ l, Byte x) : 0 ≤ bval l ∧ bval l < 256 ^ l.length := by
  induction l with
  | nil => simp [bval]
  | cons x l ih =>
    have h1 := hb x (by simp)
    have h2 := ih (fun y hy => hb y (by simp [hy]))
    unfold Byte at h1
    simp only [bval, List.length_cons, Int.pow_succ]
    omega
theorem w8_word (P : List Int) (hP : P.length = 32) (hb : ∀ x ∈ P, Byte x) (k : Nat) (hk : k < 4) : Word (w8 P k) := by
  have h := bval_range ((P.drop (8 * k)).take 8) (fun x hx => hb x (List.mem_of_mem_drop (List.mem_of_mem_take hx)))
  rw [show ((P.drop (8 * k)).take 8).length = 8 by simp; omega] at h
  exact ⟨h.1, h.2⟩
theorem bval_append (l m : List Int) : bval (l ++ m) = bval l + 256 ^ l.length * bval m := by
  induction l with
  | nil => simp [bval]
  | cons x l ih =>
    simp only [List.cons_append, bval, ih, List.length_cons, Int.pow_succ]
    rw [Int.mul_add, ← Int.mul_assoc, Int.mul_comm 256 (256 ^ l.length), Int.add_assoc]
theorem bval_w8 (P : List Int) (hP : P.length = 32) : bval P = w8 P 0 + 18446744073709551616 * (w8 P 1 + 18446744073709551616 * (w8 P 2 + 18446744073709551616 * w8 P 3)) := by
  have e : P = (P.drop (8 * 0)).take 8 ++ ((P.drop (8 * 1)).take 8 ++ ((P.drop (8 * 2)).take 8 ++ (P.drop (8 * 3)).take 8)) := by
    apply List.ext_getElem
    · simp; omega
    · intro i h1 h2
      simp only [List.getElem_append, List.length_take, List.length_drop, hP]
      by_cases c0 : i < 8
      · simp [c0]
      · by_cases c1 : i - 8 < 8
        · simp [c0, c1]; congr 1; omega
        · by_cases c2 : i - 8 - 8 < 8
          · simp [c0, c1, c2]; congr 1; omega
          · simp [c0, c1, c2]; congr 1; omega
  have l0 : ((P.drop (8 * 0)).take 8).length = 8 := by simp; omega
  have l1 : ((P.drop (8 * 1)).take 8).length = 8 := by simp; omega
  have l2 : ((P.drop (8 * 2)).take 8).length = 8 := by simp; omega
  have h : bval P = bval ((P.drop (8 * 0)).take 8 ++ ((P.drop (8 * 1)).take 8 ++ ((P.drop (8 * 2)).take 8 ++ (P.drop (8 * 3)).take 8))) := congrArg bval e
  rw [bval_append, bval_append, bval_append, l0, l1, l2] at h
  exact h
theorem dec_lim (P : List Int) (hP : P.length = 32) (hb : ∀ x ∈ P, Byte x) : [w8 P 0, w8 P 1, w8 P 2, w8 P 3 % 9223372036854775808] = lim (bval P % HH) := by
  have h := bval_w8 P hP
  have h0 := w8_word P hP hb 0 (by omega)
  have h1 := w8_word P hP hb 1 (by omega)
  have h2 := w8_word P hP hb 2 (by omega)
  have h3 := w8_word P hP hb 3 (by omega)
  generalize w8 P 0 = a at *
  generalize w8 P 1 = b at *
  generalize w8 P 2 = c at *
  generalize w8 P 3 = d at *
  unfold Word at h0 h1 h2 h3
  have e : bval P % HH = a + 18446744073709551616 * (b + 18446744073709551616 * (c + 18446744073709551616 * (d % 9223372036854775808))) := by
    rw [h]; unfold HH; omega
  rw [e]
  simp only [lim, List.cons.injEq, and_true]
  refine ⟨?_, ?_, ?_, ?_⟩ <;> omega
def dl (l : List Int) (k : Nat) : List Int := [if 0 < k then w8 l 0 else 0, if 1 < k then w8 l 1 else 0, if 2 < k then w8 l 2 else 0, if 3 < k then w8 l 3 else 0]
theorem load_piece (P : List Int) (hP : P.length = 32) (hb : ∀ x ∈ P, Byte x) (k : Nat) (hk : k < 4) (g : Nat) (w : World) (h : w.heap[g]? = some (.cells (B8 P) 50 (0, 0))) (c : Nat) (hc : 8 ≤ c) :
    Calls Try.prog 50 #[.slice (some ⟨g, 8 * k, none⟩) 8 c] w fun e w' => e = .returned (.int .u64 (w8 P k)) ∧ Below w.heap.size w w' := by
  have hl : ((P.drop (8 * k)).take 8).length = 8 := by simp; omega
  have hw := C_piece h (8 * k) 8 (by omega) (by omega)
  have := Ref.words_Load.calls 10 (some ⟨g, 8 * k, none⟩) c ((P.drop (8 * k)).take 8) (w8 P k) w (by rw [hl]; exact hw) (by rw [hl]; exact hc) (load8 _ hl (fun x hx => hb x (List.mem_of_mem_drop (List.mem_of_mem_take hx))))
  rw [hl] at this
  exact this

set_option maxHeartbeats 2000000 in
theorem decode_any (A : Option Addr) (c : Nat) (l : List Int) (hl : ∀ x ∈ l, Byte x) (w : World) (hr : Kd.C (Kd.int .u8) w A l.length l) :
    Calls Try.prog 22 #[.slice A l.length c] w fun e w' => e = .returned (.agg (E (decV l))) ∧ Below w.heap.size w w' := by
  have HR := Lib.hid hr
  have HL := Lib.hid hl
  clear hl hr
  have HP := Lib.hid (pad32_length l)
  obtain ⟨P, hP⟩ : ∃ P, pad32 l = P := ⟨_, rfl⟩
  have HPB := Lib.hid (hP ▸ pad32_byte HL.out)
  have HSP := Lib.hid (hP ▸ splice_pad l)
  rw [hP] at HP
  have HEQ := Lib.hid hP
  obtain ⟨cs, hcs⟩ : ∃ cs, nums .u8 (l.take 32) = cs := ⟨_, rfl⟩
  rw [hcs] at HSP
  have HCS := Lib.hid hcs
  clear hcs
  clear hP
  go_enter Try.func22, Try.ntmps22
  go_upto_region 2 with fail
  go_cut [2, 3] (fun s2 s3 wx => s2 = .pointer (some ⟨w.heap.size, 0, none⟩) ∧ s3 = .pointer (some ⟨w.heap.size + 1, 0, none⟩) ∧ wx.heap[w.heap.size]? = some (.cells (Ls [0, 0, 0, 0]) 27 (0, 0)) ∧ wx.heap[w.heap.size + 1]? = some (.cells (B8 P) 50 (0, 0)) ∧ Below w.heap.size w wx)
  case first =>
    have HZ0 := Lib.hid (heap_alloc2_old w (.cells (Ls [0, 0, 0, 0]) 27) (.cells (List.replicate 32 (Value.int .u8 0)).toArray 50))
    have HZ1 := Lib.hid (heap_alloc2_new w (.cells (Ls [0, 0, 0, 0]) 27) (.cells (List.replicate 32 (Value.int .u8 0)).toArray 50))
    have HZB := Lib.hid (((Below.refl w.heap.size w).alloc (Nat.le_refl _) (.cells (Ls [0, 0, 0, 0]) 27)).alloc (by simp) (.cells (List.replicate 32 (Value.int .u8 0)).toArray 50))
    have hsrc : 0 < cs.length → (some (⟨w.heap.size + 1, 0, none⟩ : Addr)) = some ⟨w.heap.size + 1, 0, none⟩ ∧ ∃ ad, A = some ad ∧ ∀ j v, cs[j]? = some v → (World.alloc (World.alloc w (.cells (Ls [0, 0, 0, 0]) 27)) (.cells (List.replicate 32 (Value.int .u8 0)).toArray 50)).cell? (ad.add j) = some v := by
      intro hp
      have hq := HCS.out
      obtain ⟨ad, e, hc⟩ := (Kd.reads_of_C (d := (0 : Int)) HR.out).2.2 (by
        rcases Nat.eq_zero_or_pos l.length with h0 | h0
        · rw [List.eq_nil_of_length_eq_zero h0] at hq; subst hq; simp [nums] at hp
        · exact h0)
      refine ⟨rfl, ad, e, fun j v hv => ?_⟩
      rw [← hq] at hv
      simp only [nums, List.getElem?_map, Option.map_eq_some_iff] at hv
      obtain ⟨x, hx, rfl⟩ := hv
      rw [List.getElem?_take] at hx
      have hj : j < l.length := by
        rcases Nat.lt_or_ge j l.length with h | h
        · exact h
        · rw [List.getElem?_eq_none h] at hx; simp at hx
      have hc1 := hc j hj
      have hx2 : l.getD j 0 = x := by
        by_cases h32 : j < 32
        · rw [if_pos h32] at hx
          rw [List.getD_eq_getElem?_getD, hx]; rfl
        · rw [if_neg h32] at hx; cases hx
      rw [hx2] at hc1
      exact (HZB.out.cell (World.block_lt_of_cell? w _ hc1)).trans hc1
    have HSRC := Lib.hid hsrc
    have HN : Hid (cs.length = Nat.min l.length 32) := by
      show _ = _
      rw [← HCS.out]
      simp [nums, Nat.min_comm]
    have HONE : Hid (∀ v ∈ cs, v.oneCell' = true) := by
      intro v hv
      rw [← HCS.out] at hv
      simp only [nums, List.mem_map] at hv
      obtain ⟨_, _, rfl⟩ := hv
      rfl
    clear hsrc
    go_wp2_with ((with_reducible refine gate_builtin (b := .copy) (xs := #[.tmp 6, .tmp 7]) rfl ?_); refine wpList_copy_splice rfl (.tmp 6) (.tmp 7) 22 22 rfl 5 Try.underlying22 (by kernel_rfl) (some ⟨w.heap.size + 1, 0, none⟩) A 32 32 l.length c rfl rfl (w.heap.size + 1) 0 (List.replicate 32 (.int .u8 0)) 50 HZ1.out cs HN.out HSRC.out (by have := HN.out; have h2 : Nat.min l.length 32 ≤ 32 := Nat.min_le_right _ _; simp only [List.length_replicate]; omega) HONE.out (w.heap.size + 1) _ (Below.refl _ _) (Nat.le_refl _) ?_; intro w' hg' hb'; have HG := Lib.hid hg'.out; have HBX := Lib.hid hb'; clear hg' hb')
    go_meet
    have hG := HG.out
    rw [HSP.out] at hG
    exact ⟨rfl, rfl, (HBX.out.block _ (by omega)).trans HZ0.out, hG, HZB.out.trans (HBX.out.mono (by omega))⟩
  case rest =>
    obtain ⟨rfl, rfl, hb0, hb1, hB⟩ := hcut
    have HB0 := Lib.hid hb0
    have HB1 := Lib.hid hb1
    have HB := Lib.hid hB
    clear hb0 hb1 hB
    go_upto_region 4 with fail
    go_cut [2, 3, 4, 9] (fun s2 s3 s4 s9 wx => ∃ g, s9 = .int .i64 0 ∧ s2 = .pointer (some ⟨w.heap.size, 0, none⟩) ∧ s3 = .pointer (some ⟨w.heap.size + 1, 0, none⟩) ∧ s4 = .pointer (some ⟨g, 0, none⟩) ∧ w.heap.size + 1 < g ∧ wx.heap[w.heap.size]? = some (.cells (Ls [0, 0, 0, 0]) 27 (0, 0)) ∧ wx.heap[w.heap.size + 1]? = some (.cells (B8 P) 50 (0, 0)) ∧ wx.heap[g]? = some (.cells (Ls [0, 0, 0, 0]) 27 (0, 0)) ∧ Below w.heap.size w wx)
    case first =>
      have hz := HB.out.size
      have hb1 := blk_lt HB1.out
      have hb0 := blk_lt HB0.out
      go_wp2_with fail
      go_meet
      exact ⟨wc.heap.size, rfl, rfl, rfl, rfl, hb1, (Below.heap_alloc _ _ _ hb0).trans HB0.out, (Below.heap_alloc _ _ _ hb1).trans HB1.out, heap_alloc_new _ _, HB.out.alloc hz _⟩
    case rest =>
      clear HB0 HB1 HB
      obtain ⟨g, rfl, rfl, rfl, rfl, hg, hb0, hb1, hb2, hB⟩ := hcut
      have HB0 := Lib.hid hb0
      have HB1 := Lib.hid hb1
      have HB2 := Lib.hid hb2
      have HB := Lib.hid hB
      clear hb0 hb1 hb2 hB
      go_wp2_with fail
      go_loopw [9] (fun s9 wr => ∃ k : Nat, k ≤ 4 ∧ s9 = .int .i64 k ∧ wr.heap[w.heap.size]? = some (.cells (Ls [0, 0, 0, 0]) 27 (0, 0)) ∧ wr.heap[w.heap.size + 1]? = some (.cells (B8 P) 50 (0, 0)) ∧ wr.heap[g]? = some (.cells (Ls (dl P k)) 27 (0, 0)) ∧ Below w.heap.size w wr) (fun s9 _ => 4 - (intOf s9).toNat)
      case atStart => exact ⟨0, by omega, rfl, HB0.out, HB1.out, HB2.out, HB.out⟩
      case round =>
      clear HB0 HB1 HB2 HB
      obtain ⟨k, hk, rfl, hb0, hb1, hb2, hB⟩ := hrel
      have hk5 : k = 0 ∨ k = 1 ∨ k = 2 ∨ k = 3 ∨ k = 4 := by omega
      rcases hk5 with rfl | rfl | rfl | rfl | rfl
      · have HB0 := Lib.hid hb0
        have HB1 := Lib.hid hb1
        have HB2 := Lib.hid hb2
        have HB := Lib.hid hB
        clear hb0 hb1 hb2 hB
        go_wp2_with fail
        refine (load_piece P HP.out HPB.out 0 (by omega) (w.heap.size + 1) _ HB1.out _ (by omega)).mono ?_
        rintro e w2 ⟨rfl, b2⟩
        have HC0 := Lib.hid ((b2.block _ (blk_lt HB0.out)).trans HB0.out)
        have HC1 := Lib.hid ((b2.block _ (blk_lt HB1.out)).trans HB1.out)
        have hC2 := (b2.block _ (blk_lt HB2.out)).trans HB2.out
        have HC2 := Lib.hid hC2
        have q0 := ls_cell hC2 0 (by simp [dl])
        have f0 := blk_frozen hC2 0
        have HCB := Lib.hid (HB.out.trans (b2.mono HB.out.size))
        clear b2 HB0 HB1 HB2 HB hC2
        go_wp2_with fail
        go_roundw
        case rel => exact ⟨1, by omega, rfl, blk_far HC0.out (by dsimp only; omega) _, blk_far HC1.out (by dsimp only; omega) _, ls_set HC2.out 0 (w8 P 0), HCB.out.setCell (by dsimp only; omega) _⟩
        case measure => simp [intOf]
      · have HB0 := Lib.hid hb0
        have HB1 := Lib.hid hb1
        have HB2 := Lib.hid hb2
        have HB := Lib.hid hB
        clear hb0 hb1 hb2 hB
        go_wp2_with fail
        refine (load_piece P HP.out HPB.out 1 (by omega) (w.heap.size + 1) _ HB1.out _ (by omega)).mono ?_
        rintro e w2 ⟨rfl, b2⟩
        have HC0 := Lib.hid ((b2.block _ (blk_lt HB0.out)).trans HB0.out)
        have HC1 := Lib.hid ((b2.block _ (blk_lt HB1.out)).trans HB1.out)
        have hC2 := (b2.block _ (blk_lt HB2.out)).trans HB2.out
        have HC2 := Lib.hid hC2
        have q0 := ls_cell hC2 1 (by simp [dl])
        have f0 := blk_frozen hC2 1
        have HCB := Lib.hid (HB.out.trans (b2.mono HB.out.size))
        clear b2 HB0 HB1 HB2 HB hC2
        go_wp2_with fail
        go_roundw
        case rel => exact ⟨2, by omega, rfl, blk_far HC0.out (by dsimp only; omega) _, blk_far HC1.out (by dsimp only; omega) _, ls_set HC2.out 1 (w8 P 1), HCB.out.setCell (by dsimp only; omega) _⟩
        case measure => simp [intOf]
      · have HB0 := Lib.hid hb0
        have HB1 := Lib.hid hb1
        have HB2 := Lib.hid hb2
        have HB := Lib.hid hB
        clear hb0 hb1 hb2 hB
        go_wp2_with fail
        refine (load_piece P HP.out HPB.out 2 (by omega) (w.heap.size + 1) _ HB1.out _ (by omega)).mono ?_
        rintro e w2 ⟨rfl, b2⟩
        have HC0 := Lib.hid ((b2.block _ (blk_lt HB0.out)).trans HB0.out)
        have HC1 := Lib.hid ((b2.block _ (blk_lt HB1.out)).trans HB1.out)
        have hC2 := (b2.block _ (blk_lt HB2.out)).trans HB2.out
        have HC2 := Lib.hid hC2
        have q0 := ls_cell hC2 2 (by simp [dl])
        have f0 := blk_frozen hC2 2
        have HCB := Lib.hid (HB.out.trans (b2.mono HB.out.size))
        clear b2 HB0 HB1 HB2 HB hC2
        go_wp2_with fail
        go_roundw
        case rel => exact ⟨3, by omega, rfl, blk_far HC0.out (by dsimp only; omega) _, blk_far HC1.out (by dsimp only; omega) _, ls_set HC2.out 2 (w8 P 2), HCB.out.setCell (by dsimp only; omega) _⟩
        case measure => simp [intOf]
      · have HB0 := Lib.hid hb0
        have HB1 := Lib.hid hb1
        have HB2 := Lib.hid hb2
        have HB := Lib.hid hB
        clear hb0 hb1 hb2 hB
        go_wp2_with fail
        refine (load_piece P HP.out HPB.out 3 (by omega) (w.heap.size + 1) _ HB1.out _ (by omega)).mono ?_
        rintro e w2 ⟨rfl, b2⟩
        have HC0 := Lib.hid ((b2.block _ (blk_lt HB0.out)).trans HB0.out)
        have HC1 := Lib.hid ((b2.block _ (blk_lt HB1.out)).trans HB1.out)
        have hC2 := (b2.block _ (blk_lt HB2.out)).trans HB2.out
        have HC2 := Lib.hid hC2
        have q0 := ls_cell hC2 3 (by simp [dl])
        have f0 := blk_frozen hC2 3
        have HCB := Lib.hid (HB.out.trans (b2.mono HB.out.size))
        clear b2 HB0 HB1 HB2 HB hC2
        go_wp2_with fail
        go_roundw
        case rel => exact ⟨4, by omega, rfl, blk_far HC0.out (by dsimp only; omega) _, blk_far HC1.out (by dsimp only; omega) _, ls_set HC2.out 3 (w8 P 3), HCB.out.setCell (by dsimp only; omega) _⟩
        case measure => simp [intOf]
      · have HB0 := Lib.hid hb0
        have HB2 := Lib.hid hb2
        have HB := Lib.hid hB
        have hw := w8_word P HP.out HPB.out
        have q0 := ls_cell hb2 3 (by simp [dl])
        have f0 := blk_frozen hb2 3
        rw [show (dl P 4).getD 3 0 = w8 P 3 from rfl] at q0
        have hm := mask63 _ (hw 3 (by omega))
        have hdl : (dl P 4).set 3 (w8 P 3 % 9223372036854775808) = lim (decV l) := by
          have := dec_lim P HP.out HPB.out
          unfold decV
          rw [HEQ.out, ← this]
          rfl
        obtain ⟨y, hy⟩ : ∃ y, w8 P 3 % 9223372036854775808 = y := ⟨_, rfl⟩
        rw [hy] at hm hdl
        have HX2 : Hid ((wr.setCell ⟨g, 3, none⟩ (.int .u64 y)).heap[g]? = some (.cells (Ls (lim (decV l))) 27 (0, 0))) := by
          rw [← hdl]; exact ls_set hb2 3 y
        have HX0 := Lib.hid (blk_far hb0 (show w.heap.size ≠ (⟨g, 3, none⟩ : Addr).block by dsimp only; omega) (.int .u64 y))
        have HXB := Lib.hid (hB.setCell (show w.heap.size ≤ (⟨g, 3, none⟩ : Addr).block by dsimp only; omega) (.int .u64 y))
        clear hdl hb0 hb1 hb2 hB hw hy
        go_wp2_with (first | (refine load27 rfl _ rfl g (lim (decV l)) rfl HX2.out rfl ?_) | (refine store27 rfl _ _ rfl w.heap.size (lim (decV l)) [0, 0, 0, 0] rfl rfl HX0.out rfl rfl ?_))
        refine ret27 rfl w.heap.size (lim (decV l)) rfl (ls_row HX0.out) rfl rfl ?_
        exact ⟨rfl, below_setRow HXB.out (Nat.le_refl _) _⟩
end Go.Proofs.Ytfklojheogidpaa
