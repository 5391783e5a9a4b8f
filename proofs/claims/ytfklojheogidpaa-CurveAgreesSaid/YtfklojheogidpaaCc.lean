import Derived.Test.YtfklojheogidpaaCs
import Derived.Lib.SliceRun
set_option linter.unusedVariables false
set_option linter.unusedSimpArgs false
namespace Go.Proofs.Ytfklojheogidpaa
open Go.RowKit Go.Proofs.YtfklojheogidpaaW.PrintWords Go.Proofs.YtfklojheogidpaaW.PrintLast Go.Proofs.YtfklojheogidpaaW.PrintMore
/-- A row of bytes that is read. -/
structure RC (w : World) (A : Option Addr) (n : Nat) (l : List Int) : Prop where
  r : Kd.C (Kd.int .u8) w A n l
theorem RC.below {w w' : World} {A : Option Addr} {n : Nat} {l : List Int} (h : RC w A n l) (hb : Below w.heap.size w w') : RC w' A n l := ⟨Kd.C_below h.r hb⟩
theorem neqS {ρ : Operand → Value} {dst : Option Tmp} {ty : TypeId} {pos : String} {aft : Array Edge} {x y : Operand} {w : World} {s : ByteArray} {g : Option (Nat × Bool)} (hx : ρ x = .string s) (hy : ρ y = .string s) :
    (execOp ρ { dst := dst, op := .binOp .neq 9 x y 9, type := ty, pos := pos, after := aft, guard := g }).run Try.prog w = .ok (.value (.bool false)) w := by
  simp only [execOp, hx, hy, binOp_string_neq]
  simp [eqGuard]
theorem eqS {ρ : Operand → Value} {dst : Option Tmp} {ty : TypeId} {pos : String} {aft : Array Edge} {x y : Operand} {w : World} {s : ByteArray} {g : Option (Nat × Bool)} (hx : ρ x = .string s) (hy : ρ y = .string s) :
    (execOp ρ { dst := dst, op := .binOp .eql 9 x y 9, type := ty, pos := pos, after := aft, guard := g }).run Try.prog w = .ok (.value (.bool true)) w := by
  simp only [execOp, hx, hy, binOp_string_eql]
  simp [eqGuard]
theorem rEncode (v : Int) {A : Option Addr} {c : Nat} (w : World) (hA : Sl w A c v) : Calls Try.prog 40 #[.slice A 32 c] w fun e w' => ∃ A' c', e = .returned (.slice A' 32 c') ∧ RC w' A' 32 (D v) ∧ Below w.heap.size w w' := by
  obtain ⟨k, hk⟩ := Encode_ok v
  have := Ref.redanref05_Encode.calls k A c (D v) (D v) w (by rw [D_length]; exact hA.1) (by rw [D_length]; exact hA.2) (hk k (Nat.le_refl _))
  rw [D_length] at this
  refine this.mono ?_
  rintro e w' ⟨v0, rfl, ho, hb⟩
  obtain ⟨A', c', e'⟩ := Kd.R_slice ho
  subst e'
  have h2 := (Kd.R_reads' ho).2.2
  rw [D_length] at h2 ⊢
  exact ⟨A', c', rfl, ⟨h2⟩, hb⟩
theorem rDecode32 (l : List Int) (h32 : l.length = 32) (hl : ∀ x ∈ l, Byte x) {A : Option Addr} {c : Nat} (w : World) (hA : Kd.C (Kd.int .u8) w A 32 l) (hc : 32 ≤ c) :
    Calls Try.prog 23 #[.slice A 32 c] w fun e w' => ∃ A' c', e = .returned (.slice A' 32 c') ∧ Sl w' A' c' (decV l) ∧ Below w.heap.size w w' := by
  have := rDecode l hl (A := A) (c := c) w (by rw [h32]; exact hA) (by omega)
  rwa [h32] at this
theorem cDecode32 (l : List Int) (n : Nat) (h32 : l.length = n) (hl : ∀ x ∈ l, Byte x) {A : Option Addr} {c : Nat} (w : World) (hA : Kd.C (Kd.int .u8) w A n l) :
    Calls Try.prog 22 #[.slice A n c] w fun e w' => e = .returned (.agg (Ls (lim (decV l)))) ∧ Below w.heap.size w w' := by
  have := cDecode (A := A) (c := c) l hl w (by rw [h32]; exact hA)
  rwa [h32] at this
theorem cEncodeR {x a : Int} (h : N x a) (w : World) : Calls Try.prog 39 #[.agg (Ls (lim x))] w fun e w' => ∃ A' c', e = .returned (.slice A' 32 c') ∧ RC w' A' 32 (D x) ∧ Below w.heap.size w w' :=
  (cEncode h w).mono (fun e w' ⟨A, c, h1, h2, h3⟩ => ⟨A, c, h1, ⟨h2⟩, h3⟩)
theorem xor128 (x : Int) (h : 0 ≤ x ∧ x ≤ 255) : 0 ≤ bits .xor .u8 x 128 ∧ bits .xor .u8 x 128 ≤ 255 ∧ bits .xor .u8 x 128 % 128 = x % 128 := by
  obtain ⟨n, rfl⟩ := Int.eq_ofNat_of_zero_le h.1
  have hn : n < 256 := by omega
  have key : ∀ m : Fin 256, 0 ≤ bits .xor .u8 ((m.val : Nat) : Int) 128 ∧ bits .xor .u8 ((m.val : Nat) : Int) 128 ≤ 255 ∧ bits .xor .u8 ((m.val : Nat) : Int) 128 % 128 = ((m.val : Nat) : Int) % 128 := by decide +kernel
  exact key ⟨n, hn⟩
theorem decV_pad {l m : List Int} (hl : l.length = 32) : decV (l ++ m) = bval l % HH := by
  unfold decV pad32
  rw [List.append_assoc, List.take_append_of_le_length (by omega), List.take_of_length_le (by omega)]
theorem decV_32 {l : List Int} (hl : l.length = 32) : decV l = bval l % HH := by
  have := decV_pad (m := []) hl
  rwa [List.append_nil] at this
theorem decV_top {l m : List Int} (hl : l.length = 32) (x : Int) (hx : x % 128 = l.getD 31 0 % 128) : decV (l.set 31 x ++ m) = decV l := by
  rw [decV_pad (by simpa using hl), decV_32 hl, bval_set l 31 x (by omega)]
  have e : (x - l.getD 31 0) * 256 ^ 31 = ((x - l.getD 31 0) / 128) * HH := by
    have h2 : (x - l.getD 31 0) % 128 = 0 := by omega
    have h3 : x - l.getD 31 0 = (x - l.getD 31 0) / 128 * 128 := by omega
    rw [show HH = 128 * 256 ^ 31 from rfl, ← Int.mul_assoc, ← h3]
  rw [e]
  exact Int.add_mul_emod_self_right ..
theorem sl50 (b : Nat) (W : World) : (Instr.sliceAt 50 (.pointer (some ⟨b, 0, none⟩)) none none none).run Try.prog W = .ok (.slice (some ⟨b, 0, none⟩) 32 32) W := by
  first
  | rfl
  | simp [Instr.sliceAt, go_sem, Try.underlying50]
theorem sl50' {ρ : Operand → Value} {dst : Option Tmp} {ty : TypeId} {pos : String} {aft : Array Edge} {x : Operand} {b : Nat} {w : World} (hx : ρ x = .pointer (some ⟨b, 0, none⟩)) :
    (execOp ρ { dst := dst, op := .slice 50 x none none none, type := ty, pos := pos, after := aft, guard := none }).run Try.prog w = .ok (.value (.slice (some ⟨b, 0, none⟩) 32 32)) w := by
  simp [execOp, hx, sl50]
theorem lenS {ρ : Operand → Value} {dst : Option Tmp} {ty : TypeId} {pos : String} {aft : Array Edge} {x : Operand} {A : Option Addr} {n c : Nat} {w : World} {g : Option (Nat × Bool)} (hx : ρ x = .slice A n c) :
    (execOp ρ { dst := dst, op := .call { callee := .builtin .len, args := #[x], argTypes := #[22] }, type := ty, pos := pos, after := aft, guard := g }).run Try.prog w = .ok (.value (.int .i64 n)) w := by
  simp [execOp, hx, go_sem]
theorem own_cell {w : World} {base g cap : Nat} {L : List Int} (hR : Kd.R (Kd.int .u8) 5 w base (fun _ => True) (.slice (some ⟨g, 0, none⟩) L.length cap) L) (i : Nat) (h : i < L.length) : w.cell? ⟨g, i, none⟩ = some (.int .u8 (L.getD i 0)) ∧ w.frozen? ⟨g, i, none⟩ = false := by
  have ho : w.ownsRow base 5 1 (.slice (some ⟨g, 0, none⟩) L.length cap) L.length (nums .u8 L) := Kd.own_of_R (enc := Value.int .u8) (h1 := fun _ => rfl) hR
  have := own_at ho i (by omega) (by omega)
  simpa [rd] using this
theorem info5' : (Try.prog.info? 5).map (fun i => (i.zero, i.size, i.bytes)) = some (some (.int .u8 0), 1, 1) := by kernel_rfl
theorem own_put {w : World} {base g cap : Nat} {L : List Int} (hR : Kd.R (Kd.int .u8) 5 w base (fun _ => True) (.slice (some ⟨g, 0, none⟩) L.length cap) L) (i : Nat) (x : Int) : Kd.R (Kd.int .u8) 5 (w.setCell ⟨g, i, none⟩ (.int .u8 x)) base (fun _ => True) (.slice (some ⟨g, 0, none⟩) (L.set i x).length cap) (L.set i x) := by
  have ho : w.ownsRow base 5 1 (.slice (some ⟨g, 0, none⟩) L.length cap) L.length (nums .u8 L) := Kd.own_of_R (enc := Value.int .u8) (h1 := fun _ => rfl) hR
  have h2 := (own_store ho i x).1
  simp only [Int.toNat_natCast] at h2
  have h3 : (w.setCell ⟨g, i, none⟩ (.int .u8 x)).ownsRow base 5 1 (.slice (some ⟨g, 0, none⟩) L.length cap) (L.set i x).length (encs (Value.int .u8) (L.set i x)) := by rw [List.length_set]; exact h2
  have h4 := Kd.R_of_own (h1 := fun _ => rfl) (ok := fun _ => True) h3 (fun _ _ => trivial)
  rw [List.length_set]
  exact h4
/-- Bytes of one's own, that may be written. -/
structure Ow (w : World) (base g cap : Nat) (L : List Int) : Prop where
  r : Kd.R (Kd.int .u8) 5 w base (fun _ => True) (.slice (some ⟨g, 0, none⟩) L.length cap) L
  ge : base ≤ g
theorem Ow.row {w : World} {base g cap : Nat} {L : List Int} (h : Ow w base g cap L) : RC w (some ⟨g, 0, none⟩) L.length L := ⟨(Kd.R_reads' h.r).2.2⟩
theorem Ow.len {w : World} {base g cap : Nat} {L : List Int} (h : Ow w base g cap L) : L.length ≤ cap := (Kd.R_reads' h.r).2.1
theorem Ow.cell {w : World} {base g cap : Nat} {L : List Int} (h : Ow w base g cap L) (i : Nat) (hi : i < L.length) : w.cell? ⟨g, i, none⟩ = some (.int .u8 (L.getD i 0)) ∧ w.frozen? ⟨g, i, none⟩ = false := own_cell h.r i hi
theorem Ow.put {w : World} {base g cap : Nat} {L : List Int} (h : Ow w base g cap L) (i : Nat) (x : Int) : Ow (w.setCell ⟨g, i, none⟩ (.int .u8 x)) base g cap (L.set i x) := ⟨own_put h.r i x, h.ge⟩
/-! ### slices.Clone -/
set_option maxHeartbeats 1000000 in
theorem clone_any (A : Option Addr) (c : Nat) (l : List Int) (w : World) (hC : Kd.C (Kd.int .u8) w A l.length l) (hc : l.length ≤ c) (hl : l.length ≤ 100000) :
    Calls Try.prog 63 #[.slice A l.length c] w fun e w' => ∃ v, e = .returned v ∧ Kd.R (Kd.int .u8) 5 w' w.heap.size (fun _ => True) v l ∧ Below w.heap.size w w' := by
  cases A with
  | none =>
    have h0 : l = [] := by
      have := (Kd.reads_of_C (d := (0 : Int)) hC).2.2
      rcases Nat.eq_zero_or_pos l.length with h | h
      · exact List.length_eq_zero_iff.1 h
      · obtain ⟨ad, e, _⟩ := this h; cases e
    subst h0
    have hq := fun W : World => Lib.run_eql_slice_nil (P := Try.prog) W 22 5 none 0 c 0 0 Try.underlying22
    go_enter Try.func63, Try.ntmps63
    go_wp2
    go_ret
    exact ⟨_, rfl, Kd.R_nil _ _ _ _ _, Below.refl _ _⟩
  | some ad =>
    have HC := Lib.hid hC
    have HB : Hid (Below w.heap.size w (w.alloc (.cells #[] 5))) := (Below.refl w.heap.size w).alloc (Nat.le_refl _) _
    have HO : Hid (Kd.R (Kd.int .u8) 5 (w.alloc (.cells #[] 5)) w.heap.size (fun _ => True) (.slice (some ⟨w.heap.size, 0, none⟩) 0 0) []) :=
      Kd.R_of_own (own_lit w w.heap.size 5 .u8 [] (Nat.le_refl _) (by simp)) (fun _ _ => trivial)
    have HR : Hid (Kd.C (Kd.int .u8) (w.alloc (.cells #[] 5)) (some ad) l.length l) := Kd.C_below HC.out HB.out
    clear hC
    have hq := fun W : World => Lib.run_eql_slice_nil (P := Try.prog) W 22 5 (some ad) l.length c 0 0 Try.underlying22
    go_enter Try.func63, Try.ntmps63
    go_wp2_with ((with_reducible refine gate_builtin (b := .append) (xs := #[.tmp 5, .tmp 6]) rfl ?_); at_builtin; refine Kd.R_append_rows (Kd.int .u8) (w0 := w) w.heap.size rfl (.tmp 5) (.tmp 6) 22 5 (.int .u8 0) 1 rfl Try.underlying22 info5' rfl (by decide) (by omega) (.slice (some ⟨w.heap.size, 0, none⟩) 0 0) [] l (some ad) l.length c (fun _ => True) (fun _ => False) rfl rfl HO.out HR.out ?aK (fun _ h => h.elim) (fun _ _ => trivial) HB.out (by simp) (by simp; omega) ?_; (case aK => exact (by intro x cs h; exact h)); intro v1 w1 hR hB hg hat; rw [List.nil_append] at hR; have HR1 := Lib.hid hR; have HB1 := Lib.hid hB; clear hR hB hg hat)
    go_ret
    exact ⟨_, rfl, HR1.out, HB1.out⟩
/-! ### Clamp -/
theorem low3 (x : Int) (h : 0 ≤ x ∧ x < 256) : bits .andNot .u8 x 7 = x / 8 * 8 := by
  obtain ⟨n, rfl⟩ := Int.eq_ofNat_of_zero_le h.1
  have key : ∀ m : Fin 256, bits .andNot .u8 ((m.val : Nat) : Int) 7 = ((m.val : Nat) : Int) / 8 * 8 := by decide +kernel
  exact key ⟨n, by omega⟩
theorem top2 (x : Int) (h : 0 ≤ x ∧ x < 256) : bits .or .u8 (bits .and .u8 x 127) 64 = x % 64 + 64 := by
  obtain ⟨n, rfl⟩ := Int.eq_ofNat_of_zero_le h.1
  have key : ∀ m : Fin 256, bits .or .u8 (bits .and .u8 ((m.val : Nat) : Int) 127) 64 = ((m.val : Nat) : Int) % 64 + 64 := by decide +kernel
  exact key ⟨n, by omega⟩
theorem clamp_bad (k : List Int) (A : Option Addr) (c : Nat) (w : World) (h : k.length ≠ 32) :
    Calls Try.prog 48 #[.slice A k.length c] w fun e w' => e = .returned (.tuple #[.slice none 0 0, .int .i64 1]) ∧ Below w.heap.size w w' := by
  have hd : decide ((k.length : Int) = 32) = false := decide_eq_false (by omega)
  have hd2 : ¬ ((k.length : Int) = 32) := by omega
  go_enter Try.func48, Try.ntmps48
  go_wp2
  go_ret2
  exact ⟨rfl, Below.refl _ _⟩
set_option maxHeartbeats 1000000 in
theorem clamp_any (k : List Int) (A : Option Addr) (c : Nat) (w : World) (hC : Kd.C (Kd.int .u8) w A 32 k) (hc : 32 ≤ c) (hb : Bytes k) (h : k.length = 32) :
    Calls Try.prog 48 #[.slice A 32 c] w fun e w' => ∃ g cap, e = .returned (.tuple #[.slice (some ⟨g, 0, none⟩) 32 cap, .int .i64 0]) ∧ Ow w' w.heap.size g cap (clampL k) ∧ Below w.heap.size w w' := by
  have KC : Hid (Calls Try.prog 63 #[.slice A 32 c] w fun e w' => ∃ v, e = .returned v ∧ Kd.R (Kd.int .u8) 5 w' w.heap.size (fun _ => True) v k ∧ Below w.heap.size w w') := by
    have := clone_any A c k w (by rw [h]; exact hC) (by omega) (by omega)
    rwa [h] at this
  clear hC
  obtain ⟨v0, hv0⟩ : ∃ x, k.getD 0 0 = x := ⟨_, rfl⟩
  obtain ⟨v1, hv1⟩ : ∃ x, k.getD 31 0 = x := ⟨_, rfl⟩
  have er : clampL k = (k.set 0 (bits .andNot .u8 v0 7)).set 31 (bits .or .u8 (bits .and .u8 v1 127) 64) := by
    unfold clampL
    rw [hv0, hv1, low3 v0 (by rw [← hv0]; exact hb.get 0), top2 v1 (by rw [← hv1]; exact hb.get 31)]
  rw [er]
  clear er
  go_enter Try.func48, Try.ntmps48
  go_wp2_with fail
  refine (KC.out).mono ?_
  rintro e w1 ⟨v, rfl, hR, hB⟩
  clear KC
  obtain ⟨gb, cap, ev, hge, hgl, _⟩ := Kd.R_form hR (by omega)
  subst ev
  have O1 : Hid (Ow w1 w.heap.size gb cap k) := ⟨hR, hge⟩
  have HB := Lib.hid hB
  have hH := Lib.hid h
  clear hR hB
  obtain ⟨c0, f0⟩ := O1.out.cell 0 (by omega)
  rw [hv0] at c0
  have O2 := Lib.hid (O1.out.put 0 (bits .andNot .u8 v0 7))
  have hg2 : (k.set 0 (bits .andNot .u8 v0 7)).getD 31 0 = k.getD 31 0 := gset_ne (by omega) _
  obtain ⟨c1, f1⟩ := O2.out.cell 31 (by simp; omega)
  rw [hg2, hv1] at c1
  have O3 := Lib.hid (O2.out.put 31 (bits .or .u8 (bits .and .u8 v1 127) 64))
  have HB3 := Lib.hid ((HB.out.setCell (p := ⟨gb, 0, none⟩) hge (.int .u8 (bits .andNot .u8 v0 7))).setCell (p := ⟨gb, 31, none⟩) hge (.int .u8 (bits .or .u8 (bits .and .u8 v1 127) 64)))
  have j : (k.length : Int) = 32 := by omega
  rw [h]
  clear O1 O2 HB
  go_wp2
  go_ret2
  exact ⟨gb, cap, rfl, O3.out, HB3.out⟩
end Go.Proofs.Ytfklojheogidpaa
