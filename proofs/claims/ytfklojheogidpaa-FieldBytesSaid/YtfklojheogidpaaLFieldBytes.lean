import Derived.Test.YtfklojheogidpaaKit3
set_option linter.unusedVariables false
set_option linter.unusedSimpArgs false
namespace Go.Proofs.Ytfklojheogidpaa
open Go.RowKit Go.Proofs.YtfklojheogidpaaW.PrintWords Go.Proofs.YtfklojheogidpaaW.PrintLast Go.Proofs.YtfklojheogidpaaW.PrintMore

/-- A row of bytes that is read. -/
structure RC (w : World) (A : Option Addr) (n : Nat) (l : List Int) : Prop where
  r : Kd.C (Kd.int .u8) w A n l
theorem RC.below {w w' : World} {A : Option Addr} {n : Nat} {l : List Int} (h : RC w A n l) (hb : Below w.heap.size w w') : RC w' A n l := ⟨Kd.C_below h.r hb⟩
/-- An array of bytes in a block, and a row that is read. -/
structure BS (W0 : World) (b : Nat) (l : List Int) (A : Option Addr) (n : Nat) (m : List Int) (w : World) : Prop where
  below : Below W0.heap.size W0 w
  blk : w.heap[b]? = some (.cells (B8 l) 50 (0, 0))
  row : Kd.C (Kd.int .u8) w A n m
theorem BS.call {W0 w w' : World} {b : Nat} {l : List Int} {A : Option Addr} {n : Nat} {m : List Int} (h : BS W0 b l A n m w) (hb : Below w.heap.size w w') : BS W0 b l A n m w' :=
  ⟨h.below.trans (hb.mono h.below.size), (hb.block _ (blk_lt h.blk)).trans h.blk, Kd.C_below h.row hb⟩
theorem BS.drew {W0 w : World} {b : Nat} {l : List Int} {A : Option Addr} {n : Nat} {m : List Int} (h : BS W0 b l A n m w) : BS W0 b l A n m w.drew := h.call (Below.refl _ _).drew
theorem BS.arr {W0 w : World} {b : Nat} {l : List Int} {A : Option Addr} {n : Nat} {m : List Int} (h : BS W0 b l A n m w) (hl : l.length = 32) : Kd.C (Kd.int .u8) w (some ⟨b, 0, none⟩) 32 l := by
  have := C_piece h.blk 0 32 (by omega) (by omega)
  rwa [List.drop_zero, List.take_of_length_le (by omega)] at this
theorem yconv {ops : Array Oper} {W0 : World} {b : Nat} {l : List Int} {A : Option Addr} {n c : Nat} {m : List Int} {op : Oper} {a : Act} (hw : Region.wanted op (yielded ops a.tmps) = true) (x : Operand) (ho : op.op = .convert 22 9 x) (hx : a.eval x = .slice A n c) : YieldsIf Try.prog ops (BS W0 b l A n m) op (.string (strOfNums m)) a :=
  .inl ⟨hw, fun w hS => by
    have h := conv_C (c := c) hS.row
    simp [execOp, ho, hx, h]⟩
theorem neqS {ρ : Operand → Value} {dst : Option Tmp} {ty : TypeId} {pos : String} {aft : Array Edge} {x y : Operand} {w : World} {s : ByteArray} {g : Option (Nat × Bool)} (hx : ρ x = .string s) (hy : ρ y = .string s) :
    (execOp ρ { dst := dst, op := .binOp .neq 9 x y 9, type := ty, pos := pos, after := aft, guard := g }).run Try.prog w = .ok (.value (.bool false)) w := by
  simp only [execOp, hx, hy, binOp_string_neq]
  simp [eqGuard]
theorem eqS {ρ : Operand → Value} {dst : Option Tmp} {ty : TypeId} {pos : String} {aft : Array Edge} {x y : Operand} {w : World} {s : ByteArray} {g : Option (Nat × Bool)} (hx : ρ x = .string s) (hy : ρ y = .string s) :
    (execOp ρ { dst := dst, op := .binOp .eql 9 x y 9, type := ty, pos := pos, after := aft, guard := g }).run Try.prog w = .ok (.value (.bool true)) w := by
  simp only [execOp, hx, hy, binOp_string_eql]
  simp [eqGuard]
theorem gtr3 {ρ : Operand → Value} {dst : Option Tmp} {ty : TypeId} {pos : String} {aft : Array Edge} {x y : Operand} {w : World} {p q : Int} {g : Option (Nat × Bool)} {r : Bool} (hx : ρ x = .int .i64 p) (hy : ρ y = .int .i64 q) (hr : decide (q < p) = r) :
    (execOp ρ { dst := dst, op := .binOp .gtr 3 x y 3, type := ty, pos := pos, after := aft, guard := g }).run Try.prog w = .ok (.value (.bool r)) w := by
  subst hr
  simp only [execOp, hx, hy]
  simp [go_sem, binOp]
theorem rEncode (v : Int) {A : Option Addr} {c : Nat} (w : World) (hA : Sl w A c v) : Calls Try.prog 40 #[.slice A 32 c] w fun e w' => ∃ A' c', e = .returned (.slice A' 32 c') ∧ RC w' A' 32 (D v) ∧ Below w.heap.size w w' := by
  obtain ⟨k, hk⟩ := Encode_ok v
  have := Ref.redanref05_Encode.calls k A c (D v) (D v) w (by rw [D_length]; exact hA.1) (by rw [D_length]; exact hA.2) (hk k (Nat.le_refl _))
  rw [D_length] at this
  refine this.mono ?_
  rintro e w' ⟨v0, rfl, ho, hb⟩
  obtain ⟨A', c', e'⟩ := Kd.R_slice ho
  subst e'
  have h2 := (Kd.R_reads' ho).2.2
  rw [D_length] at h2 ⊢
  exact ⟨A', c', rfl, ⟨h2⟩, hb⟩
theorem rDecode32 (l : List Int) (h32 : l.length = 32) (hl : ∀ x ∈ l, Byte x) {A : Option Addr} {c : Nat} (w : World) (hA : Kd.C (Kd.int .u8) w A 32 l) (hc : 32 ≤ c) :
    Calls Try.prog 23 #[.slice A 32 c] w fun e w' => ∃ A' c', e = .returned (.slice A' 32 c') ∧ Sl w' A' c' (decV l) ∧ Below w.heap.size w w' := by
  have := rDecode l hl (A := A) (c := c) w (by rw [h32]; exact hA) (by omega)
  rwa [h32] at this
theorem cDecode32 (l : List Int) (n : Nat) (h32 : l.length = n) (hl : ∀ x ∈ l, Byte x) {A : Option Addr} {c : Nat} (w : World) (hA : Kd.C (Kd.int .u8) w A n l) :
    Calls Try.prog 22 #[.slice A n c] w fun e w' => e = .returned (.agg (Ls (lim (decV l)))) ∧ Below w.heap.size w w' := by
  have := cDecode (A := A) (c := c) l hl w (by rw [h32]; exact hA)
  rwa [h32] at this
theorem cEncodeR {x a : Int} (h : N x a) (w : World) : Calls Try.prog 39 #[.agg (Ls (lim x))] w fun e w' => ∃ A' c', e = .returned (.slice A' 32 c') ∧ RC w' A' 32 (D x) ∧ Below w.heap.size w w' :=
  (cEncode h w).mono (fun e w' ⟨A, c, h1, h2, h3⟩ => ⟨A, c, h1, ⟨h2⟩, h3⟩)
/-! ### The highest bit, and what stands behind 32 bytes -/
theorem xor128 (x : Int) (h : 0 ≤ x ∧ x ≤ 255) : 0 ≤ bits .xor .u8 x 128 ∧ bits .xor .u8 x 128 ≤ 255 ∧ bits .xor .u8 x 128 % 128 = x % 128 := by
  obtain ⟨n, rfl⟩ := Int.eq_ofNat_of_zero_le h.1
  have hn : n < 256 := by omega
  have key : ∀ m : Fin 256, 0 ≤ bits .xor .u8 ((m.val : Nat) : Int) 128 ∧ bits .xor .u8 ((m.val : Nat) : Int) 128 ≤ 255 ∧ bits .xor .u8 ((m.val : Nat) : Int) 128 % 128 = ((m.val : Nat) : Int) % 128 := by decide +kernel
  exact key ⟨n, hn⟩
theorem decV_pad {l m : List Int} (hl : l.length = 32) : decV (l ++ m) = bval l % HH := by
  unfold decV pad32
  rw [List.append_assoc, List.take_append_of_le_length (by omega), List.take_of_length_le (by omega)]
theorem decV_32 {l : List Int} (hl : l.length = 32) : decV l = bval l % HH := by
  have := decV_pad (m := []) hl
  rwa [List.append_nil] at this
theorem decV_top {l m : List Int} (hl : l.length = 32) (x : Int) (hx : x % 128 = l.getD 31 0 % 128) : decV (l.set 31 x ++ m) = decV l := by
  rw [decV_pad (by simpa using hl), decV_32 hl, bval_set l 31 x (by omega)]
  have e : (x - l.getD 31 0) * 256 ^ 31 = ((x - l.getD 31 0) / 128) * HH := by
    have h2 : (x - l.getD 31 0) % 128 = 0 := by omega
    have h3 : x - l.getD 31 0 = (x - l.getD 31 0) / 128 * 128 := by omega
    rw [show HH = 128 * 256 ^ 31 from rfl, ← Int.mul_assoc, ← h3]
  rw [e]
  exact Int.add_mul_emod_self_right ..
theorem set_append {l m : List Int} {i : Nat} (h : i < l.length) (x : Int) : (l ++ m).set i x = l.set i x ++ m := by
  rw [List.set_append_left _ _ h]
theorem sl50 (b : Nat) (W : World) : (Instr.sliceAt 50 (.pointer (some ⟨b, 0, none⟩)) none none none).run Try.prog W = .ok (.slice (some ⟨b, 0, none⟩) 32 32) W := by
  first
  | rfl
  | simp [Instr.sliceAt, go_sem, Try.underlying50]
theorem sl50' {ρ : Operand → Value} {dst : Option Tmp} {ty : TypeId} {pos : String} {aft : Array Edge} {x : Operand} {b : Nat} {w : World} (hx : ρ x = .pointer (some ⟨b, 0, none⟩)) :
    (execOp ρ { dst := dst, op := .slice 50 x none none none, type := ty, pos := pos, after := aft, guard := none }).run Try.prog w = .ok (.value (.slice (some ⟨b, 0, none⟩) 32 32)) w := by
  simp [execOp, hx, sl50]
theorem lenS {ρ : Operand → Value} {dst : Option Tmp} {ty : TypeId} {pos : String} {aft : Array Edge} {x : Operand} {A : Option Addr} {n c : Nat} {w : World} {g : Option (Nat × Bool)} (hx : ρ x = .slice A n c) :
    (execOp ρ { dst := dst, op := .call { callee := .builtin .len, args := #[x], argTypes := #[22] }, type := ty, pos := pos, after := aft, guard := g }).run Try.prog w = .ok (.value (.int .i64 n)) w := by
  simp [execOp, hx, go_sem]
theorem own_cell {w : World} {base g cap : Nat} {L : List Int} (hR : Kd.R (Kd.int .u8) 5 w base (fun _ => True) (.slice (some ⟨g, 0, none⟩) L.length cap) L) (i : Nat) (h : i < L.length) : w.cell? ⟨g, i, none⟩ = some (.int .u8 (L.getD i 0)) ∧ w.frozen? ⟨g, i, none⟩ = false := by
  have ho : w.ownsRow base 5 1 (.slice (some ⟨g, 0, none⟩) L.length cap) L.length (nums .u8 L) := Kd.own_of_R (enc := Value.int .u8) (h1 := fun _ => rfl) hR
  have := own_at ho i (by omega) (by omega)
  simpa [rd] using this
theorem own_set {w : World} {base g cap : Nat} {L : List Int} (hR : Kd.R (Kd.int .u8) 5 w base (fun _ => True) (.slice (some ⟨g, 0, none⟩) L.length cap) L) (i : Nat) (x : Int) : Kd.C (Kd.int .u8) (w.setCell ⟨g, i, none⟩ (.int .u8 x)) (some ⟨g, 0, none⟩) L.length (L.set i x) := by
  have ho : w.ownsRow base 5 1 (.slice (some ⟨g, 0, none⟩) L.length cap) L.length (nums .u8 L) := Kd.own_of_R (enc := Value.int .u8) (h1 := fun _ => rfl) hR
  have h2 := (own_store ho i x).1
  simp only [Int.toNat_natCast] at h2
  have h3 : (w.setCell ⟨g, i, none⟩ (.int .u8 x)).ownsRow base 5 1 (.slice (some ⟨g, 0, none⟩) L.length cap) (L.set i x).length (encs (Value.int .u8) (L.set i x)) := by rw [List.length_set]; exact h2
  have h4 := Kd.R_of_own (h1 := fun _ => rfl) (ok := fun _ => True) h3 (fun _ _ => trivial)
  have h5 := (Kd.R_reads' h4).2.2
  rwa [List.length_set] at h5
theorem info5' : (Try.prog.info? 5).map (fun i => (i.zero, i.size, i.bytes)) = some (some (.int .u8 0), 1, 1) := by kernel_rfl
set_option maxHeartbeats 4000000 in
set_option maxRecDepth 100000 in
theorem walk_FieldBytes (w : World) (l0 : List Int) (A1 : Option Addr) (c1 : Nat) (l1 : List Int)
    (hl0 : l0.length = 32) (hw0 : ∀ x ∈ l0, 0 ≤ x ∧ x ≤ 255) (hC1 : Kd.C (Kd.int .u8) w A1 l1.length l1) (hc1 : l1.length ≤ c1) (hy1 : l1.length * 1 ≤ 140737488351232) (hw1 : ∀ x ∈ l1, 0 ≤ x ∧ x ≤ 255) :
    Calls Try.prog 12 #[.agg (nums .u8 l0).toArray, .slice A1 l1.length c1] w fun e w' => e = .returned (.bool true) ∧ Below w.heap.size w w' := by
  have HL := Lib.hid hl0
  have LB : Hid (∀ x ∈ l0, Byte x) := fun x hx => ⟨(hw0 x hx).1, by have := (hw0 x hx).2; omega⟩
  have L1 : Hid (∀ x ∈ l1, Byte x) := fun x hx => ⟨(hw1 x hx).1, by have := (hw1 x hx).2; omega⟩
  have HC1 : Hid (RC w A1 l1.length l1) := ⟨hC1⟩
  have HN := Lib.hid (N.dec l0)
  obtain ⟨B0, hB0⟩ : ∃ x, (nums .u8 l0).toArray = x := ⟨_, rfl⟩
  rw [hB0]
  have HB0 : Hid (B0 = B8 l0) := hB0.symm
  clear hl0 hw0 hw1 hC1 hy1 hB0
  go_enter Try.func12, Try.ntmps12
  go_wp2_with fail
  refine (awake_any _).mono ?_
  rintro e w1 ⟨rfl, b⟩
  have hS : Hid (BS w w.heap.size l0 none 0 [] w1) := ⟨Below.trans ((Below.refl _ _).alloc (Nat.le_refl _) _) (b.mono (by simp)), (b.block _ (by simp)).trans (by rw [← HB0.out]; exact heap_alloc_new w _), Kd.C_of_reads (d := (0 : Int)) ⟨rfl, by simp, fun h => by simp at h⟩⟩
  have HC2 := Lib.hid (HC1.out.below (Below.trans ((Below.refl _ _).alloc (Nat.le_refl _) (.cells B0 50)) (b.mono (by simp))))
  clear b HC1
  go_wp2_with fail
  refine (cDecode32 l0 32 HL.out LB.out _ (hS.out.arr HL.out)).mono ?_
  rintro e w2 ⟨rfl, b⟩
  have hS2 := Lib.hid (hS.out.call b)
  have HC3 := Lib.hid (HC2.out.below b)
  clear b hS HC2
  go_wp2_with fail
  refine (cEncodeR HN.out _).mono ?_
  rintro e w3 ⟨A6, c6, rfl, hr6, b⟩
  have hS3 : Hid (BS w w.heap.size l0 A6 32 (D (decV l0)) w3) := ⟨(hS2.out.call b).below, (hS2.out.call b).blk, hr6.r⟩
  have HC4 := Lib.hid (HC3.out.below b)
  clear b hr6 hS2 HC3 HB0
  by_cases hg : 100 < l1.length
  · have LG : Hid (decide ((100 : Int) < (l1.length : Int)) = true) := decide_eq_true (by omega)
    have i1 : (100 : Int) < (l1.length : Int) := by omega
    go_upto_region 5 with fail
    refine wp_region_held_drew (S := BS w w.heap.size l0 A6 32 (D (decV l0))) (by kernel_rfl) hS3.out.drew (fun hst => ?_)
    refine wpAnyH_take (i := 0) (oi := { dst := some 14, op := Op.move (Operand.tmp 6), type := 22, pos := "law.go:136", after := #[], guard := none }) (v := .slice A6 32 c6) rfl (by kernel_rfl) (by kernel_rfl) (by kernel_rfl) (fun _ _ _ h => h) (Or.inl ⟨by rfl, fun w' _ => by rfl⟩) hst ?_
    simp only [Act.put, List.setIfInBounds_toArray, List.set_cons_zero, List.set_cons_succ]
    refine wpAnyH_take (i := 1) (oi := { dst := some 15, op := Op.convert 22 9 (Operand.tmp 14), type := 9, pos := "law.go:136", after := #[{ on := 0, ground := Ground.data }], guard := none }) (v := .string (strOfNums (D (decV l0)))) rfl (by kernel_rfl) (by kernel_rfl) (by kernel_rfl) (fun _ _ _ h => h) (yconv (by rfl) _ rfl rfl) hst ?_
    simp only [Act.put, List.setIfInBounds_toArray, List.set_cons_zero, List.set_cons_succ]
    refine wpAnyH_take (i := 2) (oi := { dst := some 16, op := Op.slice 50 (Operand.tmp 2) none none none, type := 22, pos := "law.go:136", after := #[], guard := none }) (v := .slice (some ⟨w.heap.size, 0, none⟩) 32 32) rfl (by kernel_rfl) (by kernel_rfl) (by kernel_rfl) (fun _ _ _ h => h) (Or.inl ⟨by rfl, fun w' _ => sl50' rfl⟩) hst ?_
    simp only [Act.put, List.setIfInBounds_toArray, List.set_cons_zero, List.set_cons_succ]
    refine wpAnyH_ready (rs := [3]) (by kernel_rfl) (by simp) ?_
    refine AllReadyH.cons (o := { dst := some 17, op := Op.call { callee := Callee.value (Operand.func 23), args := #[Operand.tmp 16], argTypes := #[22] }, type := 29, pos := "law.go:136", after := #[{ on := 2, ground := Ground.data }], guard := none }) rfl (fun K hK => ?_) ?_
    · skip
      go_simp
      refine (rDecode32 l0 HL.out LB.out _ (hst.arr HL.out) (by omega)).mono ?_
      rintro e ww3 ⟨An4, cn4, rfl, hrn4, hb2⟩
      have HQn4 := Lib.hid hrn4
      refine hK.out _ _ (hst.call hb2) (fun hh1 => ?_)
      clear hK K
      refine wpAnyH_ready (rs := [4]) (by kernel_rfl) (by simp) ?_
      refine AllReadyH.cons (o := { dst := some 18, op := Op.call { callee := Callee.value (Operand.func 40), args := #[Operand.tmp 17], argTypes := #[29] }, type := 22, pos := "law.go:136", after := #[{ on := 3, ground := Ground.data }, { on := 3, ground := Ground.chain }], guard := none }) rfl (fun K hK => ?_) ?_
      · skip
        go_simp
        refine (rEncode (decV l0) _ HQn4.out).mono ?_
        rintro e ww7 ⟨An8, cn8, rfl, hrn8, hb6⟩
        have hv9 := Lib.hid (HQn4.out.below hb6)
        have HFn8 := Lib.hid hrn8
        refine hK.out _ _ (hh1.call hb6) (fun hh5 => ?_)
        clear hK K
        refine wpAnyH_ready (rs := [5]) (by kernel_rfl) (by simp) ?_
        refine AllReadyH.cons (o := { dst := some 19, op := Op.convert 22 9 (Operand.tmp 18), type := 9, pos := "law.go:136", after := #[{ on := 4, ground := Ground.data }], guard := none }) rfl (fun K hK => ?_) ?_
        · skip
          refine step_conv rfl _ rfl An8 (32) cn8 (D (decV l0)) rfl HFn8.out.r ?_
          refine hK.out _ _ hh5 (fun hh10 => ?_)
          clear hK K
          refine wpAnyH_take (i := 6) (oi := { dst := some 20, op := Op.binOp BinOp.neq 9 (Operand.tmp 15) (Operand.tmp 19) 9, type := 4, pos := "law.go:136", after := #[{ on := 1, ground := Ground.data }, { on := 5, ground := Ground.data }], guard := none }) (v := .bool false) rfl (by kernel_rfl) (by kernel_rfl) (by kernel_rfl) (fun _ _ _ h => h) (Or.inl ⟨by rfl, fun w' _ => neqS rfl rfl⟩) hh10 ?_
          simp only [Act.put, List.setIfInBounds_toArray, List.set_cons_zero, List.set_cons_succ]
          refine wpAnyH_take (i := 7) (oi := { dst := some 21, op := Op.move (Operand.tmp 20), type := 4, pos := "law.go:136", after := #[{ on := 6, ground := Ground.data }, { on := 4, ground := Ground.chain }], guard := none }) (v := .bool false) rfl (by kernel_rfl) (by kernel_rfl) (by kernel_rfl) (fun _ _ _ h => h) (Or.inl ⟨by rfl, fun w' _ => by rfl⟩) hh10 ?_
          simp only [Act.put, List.setIfInBounds_toArray, List.set_cons_zero, List.set_cons_succ]
          refine wpAnyH_take (i := 8) (oi := { dst := some 22, op := Op.move (Operand.tmp 1), type := 22, pos := "law.go:136", after := #[{ on := 7, ground := Ground.guard }], guard := some (7, false) }) (v := .slice A1 l1.length c1) rfl (by kernel_rfl) (by kernel_rfl) (by kernel_rfl) (fun _ _ _ h => h) (Or.inl ⟨by rfl, fun w' _ => by rfl⟩) hh10 ?_
          simp only [Act.put, List.setIfInBounds_toArray, List.set_cons_zero, List.set_cons_succ]
          refine wpAnyH_take (i := 9) (oi := { dst := some 23, op := Op.call { callee := Callee.builtin Builtin.len, args := #[Operand.tmp 22], argTypes := #[22] }, type := 3, pos := "law.go:136", after := #[{ on := 8, ground := Ground.data }, { on := 7, ground := Ground.guard }], guard := some (7, false) }) (v := .int .i64 l1.length) rfl (by kernel_rfl) (by kernel_rfl) (by kernel_rfl) (fun _ _ _ h => h) (Or.inl ⟨by rfl, fun w' _ => lenS rfl⟩) hh10 ?_
          simp only [Act.put, List.setIfInBounds_toArray, List.set_cons_zero, List.set_cons_succ]
          refine wpAnyH_take (i := 10) (oi := { dst := some 24, op := Op.binOp BinOp.gtr 3 (Operand.tmp 23) (Operand.const (Value.int IntKind.i64 100)) 3, type := 4, pos := "law.go:136", after := #[{ on := 9, ground := Ground.data }, { on := 7, ground := Ground.guard }], guard := some (7, false) }) (v := .bool true) rfl (by kernel_rfl) (by kernel_rfl) (by kernel_rfl) (fun _ _ _ h => h) (Or.inl ⟨by rfl, fun w' _ => gtr3 rfl rfl LG.out⟩) hh10 ?_
          simp only [Act.put, List.setIfInBounds_toArray, List.set_cons_zero, List.set_cons_succ]
          refine wpAnyH_take (i := 11) (oi := { dst := some 25, op := Op.pick (Operand.tmp 21) (Operand.const (Value.bool true)) (Operand.tmp 24), type := 4, pos := "law.go:136", after := #[{ on := 7, ground := Ground.data }, { on := 10, ground := Ground.data }], guard := none }) (v := .bool true) rfl (by kernel_rfl) (by kernel_rfl) (by kernel_rfl) (fun _ _ _ h => h) (Or.inl ⟨by rfl, fun w' _ => by rfl⟩) hh10 ?_
          simp only [Act.put, List.setIfInBounds_toArray, List.set_cons_zero, List.set_cons_succ]
          refine wpAnyH_done (by kernel_rfl) ?_ _
          have HE := Lib.hid hh10
          go_wp2_with fail
          go_ret
          exact ⟨rfl, HE.out.below⟩
        exact AllReadyH.nil
      exact AllReadyH.nil
    exact AllReadyH.nil
  · have LG : Hid (decide ((100 : Int) < (l1.length : Int)) = false) := decide_eq_false (by omega)
    have i1 : (l1.length : Int) ≤ 100 := by omega
    go_upto_region 5 with fail
    refine wp_region_held_drew (S := BS w w.heap.size l0 A6 32 (D (decV l0))) (by kernel_rfl) hS3.out.drew (fun hst => ?_)
    have HC5 := Lib.hid (HC4.out.below (Below.refl _ _).drew)
    refine wpAnyH_take (i := 0) (oi := { dst := some 14, op := Op.move (Operand.tmp 6), type := 22, pos := "law.go:136", after := #[], guard := none }) (v := .slice A6 32 c6) rfl (by kernel_rfl) (by kernel_rfl) (by kernel_rfl) (fun _ _ _ h => h) (Or.inl ⟨by rfl, fun w' _ => by rfl⟩) hst ?_
    simp only [Act.put, List.setIfInBounds_toArray, List.set_cons_zero, List.set_cons_succ]
    refine wpAnyH_take (i := 1) (oi := { dst := some 15, op := Op.convert 22 9 (Operand.tmp 14), type := 9, pos := "law.go:136", after := #[{ on := 0, ground := Ground.data }], guard := none }) (v := .string (strOfNums (D (decV l0)))) rfl (by kernel_rfl) (by kernel_rfl) (by kernel_rfl) (fun _ _ _ h => h) (yconv (by rfl) _ rfl rfl) hst ?_
    simp only [Act.put, List.setIfInBounds_toArray, List.set_cons_zero, List.set_cons_succ]
    refine wpAnyH_take (i := 2) (oi := { dst := some 16, op := Op.slice 50 (Operand.tmp 2) none none none, type := 22, pos := "law.go:136", after := #[], guard := none }) (v := .slice (some ⟨w.heap.size, 0, none⟩) 32 32) rfl (by kernel_rfl) (by kernel_rfl) (by kernel_rfl) (fun _ _ _ h => h) (Or.inl ⟨by rfl, fun w' _ => sl50' rfl⟩) hst ?_
    simp only [Act.put, List.setIfInBounds_toArray, List.set_cons_zero, List.set_cons_succ]
    refine wpAnyH_ready (rs := [3]) (by kernel_rfl) (by simp) ?_
    refine AllReadyH.cons (o := { dst := some 17, op := Op.call { callee := Callee.value (Operand.func 23), args := #[Operand.tmp 16], argTypes := #[22] }, type := 29, pos := "law.go:136", after := #[{ on := 2, ground := Ground.data }], guard := none }) rfl (fun K hK => ?_) ?_
    · skip
      go_simp
      refine (rDecode32 l0 HL.out LB.out _ (hst.arr HL.out) (by omega)).mono ?_
      rintro e ww3 ⟨An4, cn4, rfl, hrn4, hb2⟩
      have hv5 := Lib.hid (HC5.out.below hb2)
      have HQn4 := Lib.hid hrn4
      refine hK.out _ _ (hst.call hb2) (fun hh1 => ?_)
      clear hK K
      refine wpAnyH_ready (rs := [4]) (by kernel_rfl) (by simp) ?_
      refine AllReadyH.cons (o := { dst := some 18, op := Op.call { callee := Callee.value (Operand.func 40), args := #[Operand.tmp 17], argTypes := #[29] }, type := 22, pos := "law.go:136", after := #[{ on := 3, ground := Ground.data }, { on := 3, ground := Ground.chain }], guard := none }) rfl (fun K hK => ?_) ?_
      · skip
        go_simp
        refine (rEncode (decV l0) _ HQn4.out).mono ?_
        rintro e ww8 ⟨An9, cn9, rfl, hrn9, hb7⟩
        have hv10 := Lib.hid (hv5.out.below hb7)
        have hv11 := Lib.hid (HQn4.out.below hb7)
        have HFn9 := Lib.hid hrn9
        refine hK.out _ _ (hh1.call hb7) (fun hh6 => ?_)
        clear hK K
        refine wpAnyH_ready (rs := [5]) (by kernel_rfl) (by simp) ?_
        refine AllReadyH.cons (o := { dst := some 19, op := Op.convert 22 9 (Operand.tmp 18), type := 9, pos := "law.go:136", after := #[{ on := 4, ground := Ground.data }], guard := none }) rfl (fun K hK => ?_) ?_
        · skip
          refine step_conv rfl _ rfl An9 (32) cn9 (D (decV l0)) rfl HFn9.out.r ?_
          refine hK.out _ _ hh6 (fun hh12 => ?_)
          clear hK K
          refine wpAnyH_take (i := 6) (oi := { dst := some 20, op := Op.binOp BinOp.neq 9 (Operand.tmp 15) (Operand.tmp 19) 9, type := 4, pos := "law.go:136", after := #[{ on := 1, ground := Ground.data }, { on := 5, ground := Ground.data }], guard := none }) (v := .bool false) rfl (by kernel_rfl) (by kernel_rfl) (by kernel_rfl) (fun _ _ _ h => h) (Or.inl ⟨by rfl, fun w' _ => neqS rfl rfl⟩) hh12 ?_
          simp only [Act.put, List.setIfInBounds_toArray, List.set_cons_zero, List.set_cons_succ]
          refine wpAnyH_take (i := 7) (oi := { dst := some 21, op := Op.move (Operand.tmp 20), type := 4, pos := "law.go:136", after := #[{ on := 6, ground := Ground.data }, { on := 4, ground := Ground.chain }], guard := none }) (v := .bool false) rfl (by kernel_rfl) (by kernel_rfl) (by kernel_rfl) (fun _ _ _ h => h) (Or.inl ⟨by rfl, fun w' _ => by rfl⟩) hh12 ?_
          simp only [Act.put, List.setIfInBounds_toArray, List.set_cons_zero, List.set_cons_succ]
          refine wpAnyH_take (i := 8) (oi := { dst := some 22, op := Op.move (Operand.tmp 1), type := 22, pos := "law.go:136", after := #[{ on := 7, ground := Ground.guard }], guard := some (7, false) }) (v := .slice A1 l1.length c1) rfl (by kernel_rfl) (by kernel_rfl) (by kernel_rfl) (fun _ _ _ h => h) (Or.inl ⟨by rfl, fun w' _ => by rfl⟩) hh12 ?_
          simp only [Act.put, List.setIfInBounds_toArray, List.set_cons_zero, List.set_cons_succ]
          refine wpAnyH_take (i := 9) (oi := { dst := some 23, op := Op.call { callee := Callee.builtin Builtin.len, args := #[Operand.tmp 22], argTypes := #[22] }, type := 3, pos := "law.go:136", after := #[{ on := 8, ground := Ground.data }, { on := 7, ground := Ground.guard }], guard := some (7, false) }) (v := .int .i64 l1.length) rfl (by kernel_rfl) (by kernel_rfl) (by kernel_rfl) (fun _ _ _ h => h) (Or.inl ⟨by rfl, fun w' _ => lenS rfl⟩) hh12 ?_
          simp only [Act.put, List.setIfInBounds_toArray, List.set_cons_zero, List.set_cons_succ]
          refine wpAnyH_take (i := 10) (oi := { dst := some 24, op := Op.binOp BinOp.gtr 3 (Operand.tmp 23) (Operand.const (Value.int IntKind.i64 100)) 3, type := 4, pos := "law.go:136", after := #[{ on := 9, ground := Ground.data }, { on := 7, ground := Ground.guard }], guard := some (7, false) }) (v := .bool false) rfl (by kernel_rfl) (by kernel_rfl) (by kernel_rfl) (fun _ _ _ h => h) (Or.inl ⟨by rfl, fun w' _ => gtr3 rfl rfl LG.out⟩) hh12 ?_
          simp only [Act.put, List.setIfInBounds_toArray, List.set_cons_zero, List.set_cons_succ]
          refine wpAnyH_take (i := 11) (oi := { dst := some 25, op := Op.pick (Operand.tmp 21) (Operand.const (Value.bool true)) (Operand.tmp 24), type := 4, pos := "law.go:136", after := #[{ on := 7, ground := Ground.data }, { on := 10, ground := Ground.data }], guard := none }) (v := .bool false) rfl (by kernel_rfl) (by kernel_rfl) (by kernel_rfl) (fun _ _ _ h => h) (Or.inl ⟨by rfl, fun w' _ => by rfl⟩) hh12 ?_
          simp only [Act.put, List.setIfInBounds_toArray, List.set_cons_zero, List.set_cons_succ]
          refine wpAnyH_done (by kernel_rfl) ?_ _
          have HE := Lib.hid hh12
          have HM := Lib.hid hv10.out
          have hlen : l0.length = 32 := HL.out
          have HX := Lib.hid (HE.out.arr hlen)
          clear hst
          go_upto_region 10 with (first | ((with_reducible refine gate_builtin (b := .append) (xs := #[.tmp 29, .tmp 30]) rfl ?_); at_builtin; refine Kd.R_append_rows (Kd.int .u8) _ rfl (.tmp 29) (.tmp 30) 22 5 (.int .u8 0) 1 rfl Try.underlying22 info5' rfl (by decide) (by omega) (.slice none 0 0) [] l0 (some ⟨w.heap.size, 0, none⟩) 32 32 (fun _ => True) (fun _ => False) rfl rfl (Kd.R_nil _ _ _ _ _) HX.out ?aK (fun _ h => h.elim) (fun _ _ => trivial) (Below.refl _ _) (Nat.le_refl _) (by simp) ?_; (case aK => exact (by intro x cs h; exact h)); intro v1 wa hR hB hgr hat; rw [List.nil_append] at hR; have HO1 := Lib.hid hR; have HE1 := Lib.hid (HE.out.call hB); have HM1 := Lib.hid (HM.out.below hB); have HB1 := Lib.hid hB; clear hR hB hgr hat) | ((with_reducible refine gate_builtin (b := .append) (xs := #[.tmp 32, .tmp 33]) rfl ?_); at_builtin; refine Kd.R_append_rows (Kd.int .u8) _ rfl (.tmp 32) (.tmp 33) 22 5 (.int .u8 0) 1 rfl Try.underlying22 info5' rfl (by decide) (by omega) v1 l0 l1 A1 l1.length c1 (fun _ => True) (fun _ => False) rfl rfl HO1.out HM1.out.r ?aK2 (fun _ h => h.elim) (fun _ _ => trivial) HB1.out HB1.out.size (by omega) ?_; (case aK2 => exact (by intro x cs h; exact h)); intro v2 wb hR hB hgr hat; have HO2 := Lib.hid hR; have HB2 := Lib.hid hB; have HE2 := Lib.hid (HE.out.call hB); clear hR hB hgr hat))
          have hR := HO2.out
          obtain ⟨L, hLL⟩ : ∃ L, l0 ++ l1 = L := ⟨_, rfl⟩
          have hLlen : 32 ≤ L.length := by rw [← hLL]; simp; omega
          rw [hLL] at hR
          have HLL := Lib.hid hLL
          clear hLL HO2
          obtain ⟨gb, cap, ev, hge, hgl, _⟩ := Kd.R_form hR (by omega)
          subst ev
          obtain ⟨hc31, hf31⟩ := own_cell hR 31 (by omega)
          have HO2 := Lib.hid hR
          have j31 : (31 : Int) < (L.length : Int) := by omega
          clear hR
          go_wp2_with fail
          obtain ⟨x, hx⟩ : ∃ x, bits BinOp.xor IntKind.u8 (L[31]?.getD 0) 128 = x := ⟨_, rfl⟩
          simp only [hx]
          have KD : Hid (∀ W, Kd.C (Kd.int .u8) W (some ⟨gb, 0, none⟩) L.length (L.set 31 x) → Calls Try.prog 22 #[.slice (some ⟨gb, 0, none⟩) L.length cap] W fun e w' => e = .returned (.agg (Ls (lim (decV l0)))) ∧ Below W.heap.size W w') := fun W hW => by
            have hL := HLL.out
            have e0 : L[31]?.getD 0 = l0.getD 31 0 := by rw [← hL, List.getElem?_append_left (by omega), ← List.getD_eq_getElem?_getD]
            have hb0 : Byte (l0.getD 31 0) := by
              rw [List.getD_eq_getElem?_getD, List.getElem?_eq_getElem (by omega)]
              exact LB.out _ (List.getElem_mem _)
            have hx2 := xor128 (l0.getD 31 0) ⟨hb0.1, by have := hb0.2; omega⟩
            rw [e0] at hx
            rw [hx] at hx2
            have e1 : decV (L.set 31 x) = decV l0 := by rw [← hL, set_append (by omega), decV_top hlen x hx2.2.2]
            rw [← e1]
            exact cDecode32 (L.set 31 x) L.length (by simp) (fun y hy => by
              rcases List.mem_or_eq_of_mem_set hy with h | h
              · rw [← hL] at h
                exact (List.mem_append.1 h).elim (LB.out y) (L1.out y)
              · rw [h]; exact ⟨hx2.1, by omega⟩) W hW
          have HS11 := Lib.hid (HE.out.call (HB2.out.setCell (p := ⟨gb, 31, none⟩) hge (.int .u8 x)))
          have HX11 : Hid (RC (_ : World) (some ⟨gb, 0, none⟩) L.length (L.set 31 x)) := ⟨own_set HO2.out 31 x⟩
          have HX12 := Lib.hid (HX11.out.below (Below.refl _ _).drew)
          refine wp_region_held_drew (S := BS w w.heap.size l0 A6 32 (D (decV l0))) (by kernel_rfl) HS11.out.drew (fun hst => ?_)
          refine wpAnyH_take (i := 0) (oi := { dst := some 41, op := Op.move (Operand.tmp 7), type := 22, pos := "law.go:143", after := #[], guard := none }) (v := .slice (some ⟨gb, 0, none⟩) L.length cap) rfl (by kernel_rfl) (by kernel_rfl) (by kernel_rfl) (fun _ _ _ h => h) (Or.inl ⟨by rfl, fun w' _ => by rfl⟩) hst ?_
          simp only [Act.put, List.setIfInBounds_toArray, List.set_cons_zero, List.set_cons_succ]
          refine wpAnyH_take (i := 4) (oi := { dst := some 45, op := Op.move (Operand.tmp 6), type := 22, pos := "law.go:143", after := #[], guard := none }) (v := .slice A6 32 c6) rfl (by kernel_rfl) (by kernel_rfl) (by kernel_rfl) (fun _ _ _ h => h) (Or.inl ⟨by rfl, fun w' _ => by rfl⟩) hst ?_
          simp only [Act.put, List.setIfInBounds_toArray, List.set_cons_zero, List.set_cons_succ]
          refine wpAnyH_take (i := 5) (oi := { dst := some 46, op := Op.convert 22 9 (Operand.tmp 45), type := 9, pos := "law.go:143", after := #[{ on := 4, ground := Ground.data }], guard := none }) (v := .string (strOfNums (D (decV l0)))) rfl (by kernel_rfl) (by kernel_rfl) (by kernel_rfl) (fun _ _ _ h => h) (yconv (by rfl) _ rfl rfl) hst ?_
          simp only [Act.put, List.setIfInBounds_toArray, List.set_cons_zero, List.set_cons_succ]
          refine wpAnyH_ready (rs := [1]) (by kernel_rfl) (by simp) ?_
          refine AllReadyH.cons (o := { dst := some 42, op := Op.call { callee := Callee.value (Operand.func 22), args := #[Operand.tmp 41], argTypes := #[22] }, type := 27, pos := "law.go:143", after := #[{ on := 0, ground := Ground.data }], guard := none }) rfl (fun K hK => ?_) ?_
          · skip
            go_simp
            refine (KD.out _ HX12.out.r).mono ?_
            rintro e ww3 ⟨rfl, hb2⟩
            have hv5 := Lib.hid (HX12.out.below hb2)
            refine hK.out _ _ (hst.call hb2) (fun hh1 => ?_)
            clear hK K
            refine wpAnyH_ready (rs := [2]) (by kernel_rfl) (by simp) ?_
            refine AllReadyH.cons (o := { dst := some 43, op := Op.call { callee := Callee.value (Operand.func 39), args := #[Operand.tmp 42], argTypes := #[27] }, type := 22, pos := "law.go:143", after := #[{ on := 1, ground := Ground.data }, { on := 1, ground := Ground.chain }], guard := none }) rfl (fun K hK => ?_) ?_
            · skip
              go_simp
              refine (cEncodeR HN.out _).mono ?_
              rintro e ww8 ⟨An9, cn9, rfl, hrn9, hb7⟩
              have hv10 := Lib.hid (hv5.out.below hb7)
              have HFn9 := Lib.hid hrn9
              refine hK.out _ _ (hh1.call hb7) (fun hh6 => ?_)
              clear hK K
              refine wpAnyH_ready (rs := [3]) (by kernel_rfl) (by simp) ?_
              refine AllReadyH.cons (o := { dst := some 44, op := Op.convert 22 9 (Operand.tmp 43), type := 9, pos := "law.go:143", after := #[{ on := 2, ground := Ground.data }], guard := none }) rfl (fun K hK => ?_) ?_
              · skip
                refine step_conv rfl _ rfl An9 (32) cn9 (D (decV l0)) rfl HFn9.out.r ?_
                refine hK.out _ _ hh6 (fun hh11 => ?_)
                clear hK K
                refine wpAnyH_take (i := 6) (oi := { dst := some 47, op := Op.binOp BinOp.eql 9 (Operand.tmp 44) (Operand.tmp 46) 9, type := 4, pos := "law.go:143", after := #[{ on := 3, ground := Ground.data }, { on := 5, ground := Ground.data }], guard := none }) (v := .bool true) rfl (by kernel_rfl) (by kernel_rfl) (by kernel_rfl) (fun _ _ _ h => h) (Or.inl ⟨by rfl, fun w' _ => eqS rfl rfl⟩) hh11 ?_
                simp only [Act.put, List.setIfInBounds_toArray, List.set_cons_zero, List.set_cons_succ]
                refine wpAnyH_take (i := 7) (oi := { dst := some 4, op := Op.assign (Operand.tmp 47), type := 4, pos := "law.go:143", after := #[{ on := 6, ground := Ground.data }, { on := 2, ground := Ground.chain }, { on := 0, ground := Ground.phase }, { on := 1, ground := Ground.phase }, { on := 2, ground := Ground.phase }, { on := 3, ground := Ground.phase }, { on := 4, ground := Ground.phase }, { on := 5, ground := Ground.phase }, { on := 6, ground := Ground.phase }], guard := none }) (v := .bool true) rfl (by kernel_rfl) (by kernel_rfl) (by kernel_rfl) (fun _ _ _ h => h) (Or.inl ⟨by rfl, fun w' _ => by rfl⟩) hh11 ?_
                simp only [Act.put, List.setIfInBounds_toArray, List.set_cons_zero, List.set_cons_succ]
                refine wpAnyH_done (by kernel_rfl) ?_ _
                have HZ := Lib.hid hh11
                go_wp2_with fail
                go_ret
                exact ⟨rfl, HZ.out.below⟩
              exact AllReadyH.nil
            exact AllReadyH.nil
          exact AllReadyH.nil
        exact AllReadyH.nil
      exact AllReadyH.nil
    exact AllReadyH.nil

end Go.Proofs.Ytfklojheogidpaa
