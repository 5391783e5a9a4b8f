import Derived.Test.YtkcjgkfgjbhfnaaWgets
import Derived.Test.YtkcjgkfgjbhfnaaWirB
set_option linter.unusedVariables false
set_option linter.unusedSimpArgs false
namespace Go.Proofs.Ytkcjgkfgjbhfnaa
open Go.RowKit Go.Proofs.YtkcjgkfgjbhfnaaW.PrintWords Go.Proofs.YtkcjgkfgjbhfnaaW.PrintLast Go.Proofs.YtkcjgkfgjbhfnaaW.PrintMore
attribute [local go_sem ↓] Go.wp_at_zero Go.wp_at_succ
theorem addr0 (g j : Nat) : (⟨g, 0, none⟩ : Addr).add j = ⟨g, j, none⟩ := by
  unfold Addr.add
  simp <;> omega
/-- Two blocks of one type. -/
structure T2 (W0 : World) (b4 b6 : Nat) (X Y : Array Value) (w : World) : Prop where
  below : Below W0.heap.size W0 w
  h4 : w.heap[b4]? = some (.cells X 45 (0, 0))
  h6 : w.heap[b6]? = some (.cells Y 45 (0, 0))
theorem T2.call {W0 w w' : World} {b4 b6 : Nat} {X Y : Array Value} (h : T2 W0 b4 b6 X Y w) (hb : Below w.heap.size w w') : T2 W0 b4 b6 X Y w' :=
  ⟨h.below.trans (hb.mono h.below.size), (hb.block _ (blk_lt h.h4)).trans h.h4, (hb.block _ (blk_lt h.h6)).trans h.h6⟩
theorem T2.drew {W0 w : World} {b4 b6 : Nat} {X Y : Array Value} (h : T2 W0 b4 b6 X Y w) : T2 W0 b4 b6 X Y w.drew := h.call (Below.refl _ _).drew
theorem yl45a {ops : Array Oper} {W0 : World} {b4 b6 : Nat} {X Y : Array Value} {op : Oper} {a : Act} (hw : Region.wanted op (yielded ops a.tmps) = true) (x : Operand) (ho : op.op = .load 45 x) (hx : a.eval x = .pointer (some ⟨b4, 0, none⟩)) (hi : (Try.prog.info? 45).map (·.size) = some X.size) : YieldsIf Try.prog ops (T2 W0 b4 b6 X Y) op (.agg X) a :=
  .inl ⟨hw, fun w hS => by
    unfold execOp
    simp only [ho, hx, Instr.loadAt, Instr.sureAddr, Sem.run_bind, Sem.run_pure, Result.andThen_ok, run_loadVar_row w b4 45 45 X (0, 0) _ hS.h4 Try.underlying45 rfl hi]⟩
theorem yl45b {ops : Array Oper} {W0 : World} {b4 b6 : Nat} {X Y : Array Value} {op : Oper} {a : Act} (hw : Region.wanted op (yielded ops a.tmps) = true) (x : Operand) (ho : op.op = .load 45 x) (hx : a.eval x = .pointer (some ⟨b6, 0, none⟩)) (hi : (Try.prog.info? 45).map (·.size) = some Y.size) : YieldsIf Try.prog ops (T2 W0 b4 b6 X Y) op (.agg Y) a :=
  .inl ⟨hw, fun w hS => by
    unfold execOp
    simp only [ho, hx, Instr.loadAt, Instr.sureAddr, Sem.run_bind, Sem.run_pure, Result.andThen_ok, run_loadVar_row w b6 45 45 Y (0, 0) _ hS.h6 Try.underlying45 rfl hi]⟩
theorem len37 {ρ : Operand → Value} {dst : Option Tmp} {ty : TypeId} {pos : String} {aft : Array Edge} {x : Operand} {w : World} {A : Option Addr} {n c : Nat} {g : Option (Nat × Bool)} (hx : ρ x = .slice A n c) :
    (execOp ρ { dst := dst, op := .call { callee := .builtin .len, args := #[x], argTypes := #[37] }, type := ty, pos := pos, after := aft, guard := g }).run Try.prog w = .ok (.value (.int .i64 n)) w := by
  unfold execOp
  simp [resolve, invoke, hx, Builtin.len_, Builtin.lenOf, go_sem, Try.underlying37, goInt]
theorem gtr3f {ρ : Operand → Value} {dst : Option Tmp} {ty : TypeId} {pos : String} {aft : Array Edge} {x y : Operand} {w : World} {p q : Int} {g : Option (Nat × Bool)} (hx : ρ x = .int .i64 p) (hy : ρ y = .int .i64 q) (h : p ≤ q) :
    (execOp ρ { dst := dst, op := .binOp .gtr 3 x y 3, type := ty, pos := pos, after := aft, guard := g }).run Try.prog w = .ok (.value (.bool false)) w := by
  simp only [execOp, hx, hy]
  simp [eqGuard, go_sem, binOp, Try.underlying3] <;> omega
theorem eq28n {ρ : Operand → Value} {dst : Option Tmp} {ty : TypeId} {pos : String} {aft : Array Edge} {x y : Operand} {w : World} {p q : Int} {g : Option (Nat × Bool)} (hx : ρ x = .int .i64 p) (hy : ρ y = .int .i64 q) (h : p ≠ q) :
    (execOp ρ { dst := dst, op := .binOp .eql 28 x y 28, type := ty, pos := pos, after := aft, guard := g }).run Try.prog w = .ok (.value (.bool false)) w := by
  simp only [execOp, hx, hy]
  simp [eqGuard, go_sem, binOp, Op.equal, Op.equalIn, Op.maxDepth, Try.underlying28, h]
theorem errn_bad {l : List Int} (h : good l = false) : errn l = 13 ∨ errn l = 14 ∨ errn l = 40 := by
  unfold errn
  rw [h]
  split <;> (try split) <;> simp
set_option maxHeartbeats 8000000 in
set_option maxRecDepth 100000 in
theorem back_yn (w : World) (P : Pk) (hP : P.ok) {A B : Option Addr} {c d : Nat} (hA : Rd w A c P.mac) (hB : Rd w B d P.body) (hmb : mayB P = true) (h1 : P.body.length ≤ 3000)
    {A2 : Option Addr} {c2 : Nat} {l2 : List Int} (h2 : Rd w A2 c2 l2) (h3 : l2.length ≤ 3000) (hg : good l2 = false) :
    Calls Try.prog 9 #[.agg (pkc P A c B d), .slice A2 l2.length c2] w fun e w' => e = .returned (.bool true) ∧ Below w.heap.size w w' := by
  have HA := Lib.hid hA
  have HBd := Lib.hid hB
  have HR := Lib.hid h2
  have i0 : (P.body.length : Int) ≤ 3000 := by omega
  have i1 : (l2.length : Int) ≤ 3000 := by omega
  obtain ⟨x, hx⟩ : ∃ x, putL P = x := ⟨_, rfl⟩
  obtain ⟨bk1, bk2, bk3⟩ := back_of P hP hmb
  have hgp : getP (putL P) = P := by unfold getP; rw [if_pos bk1, bk2]
  have hep : errn (putL P) = 0 := by
    have := good_len bk1
    unfold errn
    rw [if_neg (by omega), if_neg (by omega), if_pos bk1]
  have KP : Hid (∀ w', Rd w' A c P.mac → Rd w' B d P.body → Calls Try.prog 20 #[.agg (pkc P A c B d)] w' fun e w2 => ∃ D f, e = .returned (.tuple #[.slice D x.length f, .int .i64 0]) ∧ Rd w2 D f x ∧ Below w'.heap.size w' w2) := fun w' ha hb => by rw [← hx]; exact bput_yes P hP w' ha hb hmb
  rw [hx] at hgp hep bk3
  have BM : Hid (Bytes P.mac) := hA.b
  have BBo : Hid (Bytes P.body) := hB.b
  have KG : Hid (∀ w' D f, Rd w' D f x → Calls Try.prog 25 #[.slice D x.length f] w' fun e w2 => ∃ A' c' B' d', e = .returned (.tuple #[.agg (pkc P A' c' B' d'), .int .i64 0]) ∧ Rd w2 A' c' P.mac ∧ Rd w2 B' d' P.body ∧ Below w'.heap.size w' w2) := fun w' D f h => by
    have := pget D f x w' h (by omega)
    rw [hgp, hep] at this
    refine this.mono ?_
    rintro e w2 ⟨A', c', B', d', rfl, hA', hB', hb'⟩
    exact ⟨A', c', B', d', rfl, (hA'.rd BM.out).2, (hB'.rd BBo.out).2, hb'⟩
  have ix : (x.length : Int) ≤ 1200 := by omega
  have IX := Lib.hid ix
  clear ix
  clear hgp hep bk1 bk2 bk3 hx
  obtain ⟨n, hn⟩ : ∃ n, errn l2 = n := ⟨_, rfl⟩
  obtain ⟨Q, hQ⟩ : ∃ Q, getP l2 = Q := ⟨_, rfl⟩
  have KB : Hid (∀ w', Rd w' A2 c2 l2 → Calls Try.prog 25 #[.slice A2 l2.length c2] w' fun e w2 => ∃ A' c' B' d', e = .returned (.tuple #[.agg (pkc Q A' c' B' d'), .int .i64 n]) ∧ OwnA w2 w'.heap.size (.slice A' Q.mac.length c') Q.mac ∧ OwnA w2 w'.heap.size (.slice B' Q.body.length d') Q.body ∧ Below w'.heap.size w' w2) := fun w' h => by rw [← hQ, ← hn]; exact pget A2 c2 l2 w' h (by omega)
  have hn3 : n = 13 ∨ n = 14 ∨ n = 40 := by rw [← hn]; exact errn_bad hg
  have hk : Q.k = 0 := by rw [← hQ]; unfold getP; rw [hg]; rfl
  have HN := Lib.hid hn3
  have HK := Lib.hid hk
  clear hn3 hk hn hQ
  clear hA hB h2 hmb hg h1 h3
  go_enter Try.func9, Try.ntmps9
  go_wp2_with fail
  with_reducible refine (awake_any _).mono ?_
  rintro e w1 ⟨rfl, hb⟩
  have H1 : Hid (w1.heap[w.heap.size]? = some (.cells (pkc P A c B d) 45 (0, 0))) := (hb.block _ (by simp)).trans (heap_alloc_new w _)
  have HB1 : Hid (Below w.heap.size w w1) := Below.trans ((Below.refl _ _).alloc (Nat.le_refl _) _) (hb.mono (by simp))
  have q8 : w1.cell? ⟨w.heap.size, 8, none⟩ = some (.slice B P.body.length d) := (blk_cell H1.out 8).trans rfl
  clear hb
  go_wp2_with (refine load45 rfl _ rfl w.heap.size P A c B d rfl H1.out ?_)
  with_reducible refine (KP.out _ (HA.out.below HB1.out) (HBd.out.below HB1.out)).mono ?_
  rintro e w2 ⟨D, f, rfl, hD, hb⟩
  have H2 : Hid (w2.heap[w.heap.size]? = some (.cells (pkc P A c B d) 45 (0, 0))) := (hb.block _ (blk_lt H1.out)).trans H1.out
  have HB2 := Lib.hid (HB1.out.trans (hb.mono HB1.out.size))
  have HD := Lib.hid hD
  clear hb hD q8 H1 HB1
  go_wp2_with fail
  with_reducible refine (KG.out _ _ _ HD.out).mono ?_
  rintro e w3 ⟨A', c', B', d', rfl, hA', hB', hb⟩
  have H3 : Hid (w3.heap[w.heap.size]? = some (.cells (pkc P A c B d) 45 (0, 0))) := (hb.block _ (blk_lt H2.out)).trans H2.out
  have HB3 := Lib.hid (HB2.out.trans (hb.mono HB2.out.size))
  have HA' := Lib.hid hA'
  have HB' := Lib.hid hB'
  clear hA' hB'
  clear hb H2 HB2 KP KG HD
  have hal := Lib.hid (heap_alloc_new w3 (.cells z46 45))
  have hn := new_below w3 45 #[.int .i64 0, .int .u32 0, .int .u32 0, .int .i64 0, .int .i64 0, .int .i64 0, .slice none 0 0, .int .u64 0, .slice none 0 0] (pkc P A' c' B' d')
  obtain ⟨w5, hw5⟩ : ∃ x, (w3.alloc (.cells #[.int .i64 0, .int .u32 0, .int .u32 0, .int .i64 0, .int .i64 0, .int .i64 0, .slice none 0 0, .int .u64 0, .slice none 0 0] 45)).setRow w3.heap.size (pkc P A' c' B' d') = x := ⟨_, rfl⟩
  have H6 : Hid (w5.heap[w3.heap.size]? = some (.cells (pkc P A' c' B' d') 45 (0, 0))) := hw5 ▸ new_row w3 45 #[.int .i64 0, .int .u32 0, .int .u32 0, .int .i64 0, .int .i64 0, .int .i64 0, .slice none 0 0, .int .u64 0, .slice none 0 0] (pkc P A' c' B' d')
  rw [hw5] at hn
  have H5 : Hid (w5.heap[w.heap.size]? = some (.cells (pkc P A c B d) 45 (0, 0))) := (hn.block _ (blk_lt H3.out)).trans H3.out
  have HB5 := Lib.hid (HB3.out.trans (hn.mono HB3.out.size))
  have HA5' := Lib.hid (HA'.out.below hn)
  have HB5' := Lib.hid (HB'.out.below hn)
  have HA5 := Lib.hid (HA.out.below HB5.out)
  have HBd5 := Lib.hid (HBd.out.below HB5.out)
  have HR5 := Lib.hid (HR.out.below HB5.out)
  have HW5 := Lib.hid hw5
  clear hn hw5 H3 HB3 HA HBd HR HA' HB'
  go_upto_region 8 with (refine store45 rfl _ _ rfl w3.heap.size P A' c' B' d' rfl rfl hal.out ?_)
  rw [HW5.out]
  clear HW5 hal
  have ix := IX.out
  clear IX
  have HS : Hid (T2 w5 w3.heap.size w.heap.size (pkc P A' c' B' d') (pkc P A c B d) w5) := ⟨Below.refl _ _, H6.out, H5.out⟩
  clear H6 H5
  refine wp_region_held_drew (S := T2 w5 w3.heap.size w.heap.size (pkc P A' c' B' d') (pkc P A c B d)) (by kernel_rfl) HS.out.drew (fun hst => ?_)
  refine wpAnyH_take (i := 0) (oi := { dst := some 39, op := Op.move (Operand.tmp 7), type := 28, pos := "law.go:70", after := #[], guard := none }) (v := .int .i64 0) rfl (by kernel_rfl) (by kernel_rfl) (by kernel_rfl) (fun _ _ _ h => h) (Or.inl ⟨by rfl, fun w' _ => by rfl⟩) hst ?_
  simp only [Act.put, List.setIfInBounds_toArray, List.set_cons_zero, List.set_cons_succ]
  refine wpAnyH_take (i := 1) (oi := { dst := some 40, op := Op.binOp BinOp.eql 28 (Operand.tmp 39) (Operand.const (Value.int IntKind.i64 0)) 28, type := 4, pos := "law.go:70", after := #[{ on := 0, ground := Ground.data }], guard := none }) (v := .bool true) rfl (by kernel_rfl) (by kernel_rfl) (by kernel_rfl) (fun _ _ _ h => h) (Or.inl ⟨by rfl, fun w' _ => eq28 rfl rfl⟩) hst ?_
  simp only [Act.put, List.setIfInBounds_toArray, List.set_cons_zero, List.set_cons_succ]
  refine wpAnyH_take (i := 2) (oi := { dst := some 41, op := Op.move (Operand.tmp 40), type := 4, pos := "law.go:70", after := #[{ on := 1, ground := Ground.data }], guard := none }) (v := .bool true) rfl (by kernel_rfl) (by kernel_rfl) (by kernel_rfl) (fun _ _ _ h => h) (Or.inl ⟨by rfl, fun w' _ => by rfl⟩) hst ?_
  simp only [Act.put, List.setIfInBounds_toArray, List.set_cons_zero, List.set_cons_succ]
  refine wpAnyH_take (i := 3) (oi := { dst := some 42, op := Op.move (Operand.tmp 9), type := 28, pos := "law.go:70", after := #[{ on := 2, ground := Ground.guard }], guard := some (2, true) }) (v := .int .i64 0) rfl (by kernel_rfl) (by kernel_rfl) (by kernel_rfl) (fun _ _ _ h => h) (Or.inl ⟨by rfl, fun w' _ => by rfl⟩) hst ?_
  simp only [Act.put, List.setIfInBounds_toArray, List.set_cons_zero, List.set_cons_succ]
  refine wpAnyH_take (i := 4) (oi := { dst := some 43, op := Op.binOp BinOp.neq 28 (Operand.tmp 42) (Operand.const (Value.int IntKind.i64 0)) 28, type := 4, pos := "law.go:70", after := #[{ on := 3, ground := Ground.data }, { on := 2, ground := Ground.guard }], guard := some (2, true) }) (v := .bool false) rfl (by kernel_rfl) (by kernel_rfl) (by kernel_rfl) (fun _ _ _ h => h) (Or.inl ⟨by rfl, fun w' _ => neq28 rfl rfl⟩) hst ?_
  simp only [Act.put, List.setIfInBounds_toArray, List.set_cons_zero, List.set_cons_succ]
  refine wpAnyH_take (i := 5) (oi := { dst := some 44, op := Op.move (Operand.tmp 43), type := 4, pos := "law.go:70", after := #[{ on := 4, ground := Ground.data }, { on := 2, ground := Ground.chain }, { on := 2, ground := Ground.guard }], guard := some (2, true) }) (v := .bool false) rfl (by kernel_rfl) (by kernel_rfl) (by kernel_rfl) (fun _ _ _ h => h) (Or.inl ⟨by rfl, fun w' _ => by rfl⟩) hst ?_
  simp only [Act.put, List.setIfInBounds_toArray, List.set_cons_zero, List.set_cons_succ]
  refine wpAnyH_take (i := 6) (oi := { dst := some 45, op := Op.move (Operand.tmp 6), type := 37, pos := "law.go:70", after := #[{ on := 5, ground := Ground.guard }], guard := some (5, false) }) (v := .slice D x.length f) rfl (by kernel_rfl) (by kernel_rfl) (by kernel_rfl) (fun _ _ _ h => h) (Or.inl ⟨by rfl, fun w' _ => by rfl⟩) hst ?_
  simp only [Act.put, List.setIfInBounds_toArray, List.set_cons_zero, List.set_cons_succ]
  refine wpAnyH_take (i := 7) (oi := { dst := some 46, op := Op.call { callee := Callee.builtin Builtin.len, args := #[Operand.tmp 45], argTypes := #[37] }, type := 3, pos := "law.go:70", after := #[{ on := 6, ground := Ground.data }, { on := 5, ground := Ground.guard }], guard := some (5, false) }) (v := .int .i64 x.length) rfl (by kernel_rfl) (by kernel_rfl) (by kernel_rfl) (fun _ _ _ h => h) (Or.inl ⟨by rfl, fun w' _ => len37 rfl⟩) hst ?_
  simp only [Act.put, List.setIfInBounds_toArray, List.set_cons_zero, List.set_cons_succ]
  refine wpAnyH_take (i := 8) (oi := { dst := some 47, op := Op.binOp BinOp.gtr 3 (Operand.tmp 46) (Operand.const (Value.int IntKind.i64 1200)) 3, type := 4, pos := "law.go:70", after := #[{ on := 7, ground := Ground.data }, { on := 5, ground := Ground.guard }], guard := some (5, false) }) (v := .bool false) rfl (by kernel_rfl) (by kernel_rfl) (by kernel_rfl) (fun _ _ _ h => h) (Or.inl ⟨by rfl, fun w' _ => gtr3f rfl rfl ix⟩) hst ?_
  simp only [Act.put, List.setIfInBounds_toArray, List.set_cons_zero, List.set_cons_succ]
  refine wpAnyH_take (i := 9) (oi := { dst := some 48, op := Op.pick (Operand.tmp 44) (Operand.const (Value.bool true)) (Operand.tmp 47), type := 4, pos := "law.go:70", after := #[{ on := 5, ground := Ground.data }, { on := 8, ground := Ground.data }, { on := 2, ground := Ground.guard }], guard := some (2, true) }) (v := .bool false) rfl (by kernel_rfl) (by kernel_rfl) (by kernel_rfl) (fun _ _ _ h => h) (Or.inl ⟨by rfl, fun w' _ => by rfl⟩) hst ?_
  simp only [Act.put, List.setIfInBounds_toArray, List.set_cons_zero, List.set_cons_succ]
  refine wpAnyH_take (i := 10) (oi := { dst := some 49, op := Op.move (Operand.tmp 48), type := 4, pos := "law.go:70", after := #[{ on := 9, ground := Ground.data }, { on := 5, ground := Ground.chain }, { on := 2, ground := Ground.guard }], guard := some (2, true) }) (v := .bool false) rfl (by kernel_rfl) (by kernel_rfl) (by kernel_rfl) (fun _ _ _ h => h) (Or.inl ⟨by rfl, fun w' _ => by rfl⟩) hst ?_
  simp only [Act.put, List.setIfInBounds_toArray, List.set_cons_zero, List.set_cons_succ]
  refine wpAnyH_take (i := 11) (oi := { dst := some 50, op := Op.load 45 (Operand.tmp 8), type := 45, pos := "law.go:70", after := #[{ on := 10, ground := Ground.guard }], guard := some (10, false) }) (v := .agg (pkc P A' c' B' d')) rfl (by kernel_rfl) (by kernel_rfl) (by kernel_rfl) (fun _ _ _ h => h) (yl45a (by rfl) _ rfl rfl (isz45 P A' c' B' d')) hst ?_
  simp only [Act.put, List.setIfInBounds_toArray, List.set_cons_zero, List.set_cons_succ]
  refine wpAnyH_take (i := 13) (oi := { dst := some 52, op := Op.load 45 (Operand.tmp 2), type := 45, pos := "law.go:70", after := #[{ on := 10, ground := Ground.guard }], guard := some (10, false) }) (v := .agg (pkc P A c B d)) rfl (by kernel_rfl) (by kernel_rfl) (by kernel_rfl) (fun _ _ _ h => h) (yl45b (by rfl) _ rfl rfl (isz45 P A c B d)) hst ?_
  simp only [Act.put, List.setIfInBounds_toArray, List.set_cons_zero, List.set_cons_succ]
  refine wpAnyH_ready (rs := [12]) (by kernel_rfl) (by simp) ?_
  refine AllReadyH.cons (o := { dst := some 51, op := Op.call { callee := Callee.value (Operand.func 19), args := #[Operand.tmp 50], argTypes := #[45] }, type := 46, pos := "law.go:70", after := #[{ on := 11, ground := Ground.data }, { on := 10, ground := Ground.chain }, { on := 10, ground := Ground.guard }], guard := some (10, false) }) rfl (fun K hK => ?_) ?_
  · skip
    go_simp
    refine (pmodel P A' c' B' d' _).mono ?_
    rintro e ww3 ⟨rfl, hb2⟩
    refine hK.out _ _ (hst.call hb2) (fun hh1 => ?_)
    clear hK K
    refine wpAnyH_ready (rs := [14]) (by kernel_rfl) (by simp) ?_
    refine AllReadyH.cons (o := { dst := some 53, op := Op.call { callee := Callee.value (Operand.func 19), args := #[Operand.tmp 52], argTypes := #[45] }, type := 46, pos := "law.go:70", after := #[{ on := 13, ground := Ground.data }, { on := 12, ground := Ground.chain }, { on := 10, ground := Ground.guard }], guard := some (10, false) }) rfl (fun K hK => ?_) ?_
    · skip
      go_simp
      refine (pmodel P A c B d _).mono ?_
      rintro e ww7 ⟨rfl, hb6⟩
      refine hK.out _ _ (hh1.call hb6) (fun hh5 => ?_)
      clear hK K
      refine wpAnyH_ready (rs := [15]) (by kernel_rfl) (by simp) ?_
      refine AllReadyH.cons (o := { dst := some 54, op := Op.call { callee := Callee.value (Operand.func 27), args := #[Operand.tmp 51, Operand.tmp 53], argTypes := #[46, 46] }, type := 4, pos := "law.go:70", after := #[{ on := 12, ground := Ground.data }, { on := 14, ground := Ground.data }, { on := 14, ground := Ground.chain }, { on := 10, ground := Ground.guard }], guard := some (10, false) }) rfl (fun K hK => ?_) ?_
      · skip
        go_simp
        refine (psame P _ (HA5'.out.below hh5.below) (HB5'.out.below hh5.below) (HA5.out.below hh5.below) (HBd5.out.below hh5.below)).mono ?_
        rintro e ww11 ⟨rfl, hb10⟩
        refine hK.out _ _ (hh5.call hb10) (fun hh9 => ?_)
        clear hK K
        refine wpAnyH_take (i := 16) (oi := { dst := some 55, op := Op.unOp UnOp.not 4 (Operand.tmp 54), type := 4, pos := "law.go:70", after := #[{ on := 15, ground := Ground.data }, { on := 10, ground := Ground.guard }], guard := some (10, false) }) (v := .bool false) rfl (by kernel_rfl) (by kernel_rfl) (by kernel_rfl) (fun _ _ _ h => h) (Or.inl ⟨by rfl, fun w' _ => by rfl⟩) hh9 ?_
        simp only [Act.put, List.setIfInBounds_toArray, List.set_cons_zero, List.set_cons_succ]
        refine wpAnyH_take (i := 17) (oi := { dst := some 56, op := Op.pick (Operand.tmp 49) (Operand.const (Value.bool true)) (Operand.tmp 55), type := 4, pos := "law.go:70", after := #[{ on := 10, ground := Ground.data }, { on := 16, ground := Ground.data }, { on := 2, ground := Ground.guard }], guard := some (2, true) }) (v := .bool false) rfl (by kernel_rfl) (by kernel_rfl) (by kernel_rfl) (fun _ _ _ h => h) (Or.inl ⟨by rfl, fun w' _ => by rfl⟩) hh9 ?_
        simp only [Act.put, List.setIfInBounds_toArray, List.set_cons_zero, List.set_cons_succ]
        refine wpAnyH_take (i := 18) (oi := { dst := some 57, op := Op.pick (Operand.tmp 41) (Operand.tmp 56) (Operand.const (Value.bool false)), type := 4, pos := "law.go:70", after := #[{ on := 2, ground := Ground.data }, { on := 17, ground := Ground.data }], guard := none }) (v := .bool false) rfl (by kernel_rfl) (by kernel_rfl) (by kernel_rfl) (fun _ _ _ h => h) (Or.inl ⟨by rfl, fun w' _ => by rfl⟩) hh9 ?_
        simp only [Act.put, List.setIfInBounds_toArray, List.set_cons_zero, List.set_cons_succ]
        refine wpAnyH_done (by kernel_rfl) ?_ _
        have HZ := Lib.hid hh9
        have HB6 := Lib.hid (HB5.out.trans (HZ.out.below.mono HB5.out.size))
        have HR6 := Lib.hid (HR5.out.below HZ.out.below)
        clear HZ HS HB5 HR5 HA5 HBd5 HA5' HB5'
        go_wp2_with fail
        with_reducible refine (KB.out _ HR6.out).mono ?_
        rintro e w6 ⟨A9, c9, B9, d9, rfl, hA, hB, hb⟩
        have HB7 := Lib.hid (HB6.out.trans (hb.mono HB6.out.size))
        clear hA hB hb KB HB6
        have hal := Lib.hid (heap_alloc_new w6 (.cells z46 45))
        have hn := new_below w6 45 #[.int .i64 0, .int .u32 0, .int .u32 0, .int .i64 0, .int .i64 0, .int .i64 0, .slice none 0 0, .int .u64 0, .slice none 0 0] (pkc Q A9 c9 B9 d9)
        obtain ⟨w7, hw7⟩ : ∃ x, (w6.alloc (.cells #[.int .i64 0, .int .u32 0, .int .u32 0, .int .i64 0, .int .i64 0, .int .i64 0, .slice none 0 0, .int .u64 0, .slice none 0 0] 45)).setRow w6.heap.size (pkc Q A9 c9 B9 d9) = x := ⟨_, rfl⟩
        have H7 : Hid (w7.heap[w6.heap.size]? = some (.cells (pkc Q A9 c9 B9 d9) 45 (0, 0))) := hw7 ▸ new_row w6 45 #[.int .i64 0, .int .u32 0, .int .u32 0, .int .i64 0, .int .i64 0, .int .i64 0, .slice none 0 0, .int .u64 0, .slice none 0 0] (pkc Q A9 c9 B9 d9)
        rw [hw7] at hn
        have HB8 := Lib.hid (HB7.out.trans (hn.mono HB7.out.size))
        have HW7 := Lib.hid hw7
        clear hn hw7 HB7
        go_upto_region 11 with (refine store45 rfl _ _ rfl w6.heap.size Q A9 c9 B9 d9 rfl rfl hal.out ?_)
        rw [HW7.out]
        clear HW7 hal
        have q0 : w7.cell? ⟨w6.heap.size, 0, none⟩ = some (.int .i64 0) := (blk_cell H7.out 0).trans (by rw [← HK.out]; rfl)
        rcases HN.out with rfl | rfl | rfl
        · go_wp2_with fail
          go_ret
          exact ⟨rfl, HB8.out⟩
        · go_wp2_with fail
          go_ret
          exact ⟨rfl, HB8.out⟩
        · go_wp2_with fail
          go_ret
          exact ⟨rfl, HB8.out⟩
      exact AllReadyH.nil
    exact AllReadyH.nil
  exact AllReadyH.nil
set_option maxHeartbeats 8000000 in
set_option maxRecDepth 100000 in
theorem back_yy (w : World) (P : Pk) (hP : P.ok) {A B : Option Addr} {c d : Nat} (hA : Rd w A c P.mac) (hB : Rd w B d P.body) (hmb : mayB P = true) (h1 : P.body.length ≤ 3000)
    {A2 : Option Addr} {c2 : Nat} {l2 : List Int} (h2 : Rd w A2 c2 l2) (h3 : l2.length ≤ 3000) (hg : good l2 = true) :
    Calls Try.prog 9 #[.agg (pkc P A c B d), .slice A2 l2.length c2] w fun e w' => e = .returned (.bool true) ∧ Below w.heap.size w w' := by
  have HA := Lib.hid hA
  have HBd := Lib.hid hB
  have HR := Lib.hid h2
  have i0 : (P.body.length : Int) ≤ 3000 := by omega
  have i1 : (l2.length : Int) ≤ 3000 := by omega
  obtain ⟨x, hx⟩ : ∃ x, putL P = x := ⟨_, rfl⟩
  obtain ⟨bk1, bk2, bk3⟩ := back_of P hP hmb
  have hgp : getP (putL P) = P := by unfold getP; rw [if_pos bk1, bk2]
  have hep : errn (putL P) = 0 := by
    have := good_len bk1
    unfold errn
    rw [if_neg (by omega), if_neg (by omega), if_pos bk1]
  have KP : Hid (∀ w', Rd w' A c P.mac → Rd w' B d P.body → Calls Try.prog 20 #[.agg (pkc P A c B d)] w' fun e w2 => ∃ D f, e = .returned (.tuple #[.slice D x.length f, .int .i64 0]) ∧ Rd w2 D f x ∧ Below w'.heap.size w' w2) := fun w' ha hb => by rw [← hx]; exact bput_yes P hP w' ha hb hmb
  rw [hx] at hgp hep bk3
  have BM : Hid (Bytes P.mac) := hA.b
  have BBo : Hid (Bytes P.body) := hB.b
  have KG : Hid (∀ w' D f, Rd w' D f x → Calls Try.prog 25 #[.slice D x.length f] w' fun e w2 => ∃ A' c' B' d', e = .returned (.tuple #[.agg (pkc P A' c' B' d'), .int .i64 0]) ∧ Rd w2 A' c' P.mac ∧ Rd w2 B' d' P.body ∧ Below w'.heap.size w' w2) := fun w' D f h => by
    have := pget D f x w' h (by omega)
    rw [hgp, hep] at this
    refine this.mono ?_
    rintro e w2 ⟨A', c', B', d', rfl, hA', hB', hb'⟩
    exact ⟨A', c', B', d', rfl, (hA'.rd BM.out).2, (hB'.rd BBo.out).2, hb'⟩
  have ix : (x.length : Int) ≤ 1200 := by omega
  have IX := Lib.hid ix
  clear ix
  clear hgp hep bk1 bk2 bk3 hx
  obtain ⟨n, hn⟩ : ∃ n, errn l2 = n := ⟨_, rfl⟩
  obtain ⟨Q, hQ⟩ : ∃ Q, getP l2 = Q := ⟨_, rfl⟩
  have KB : Hid (∀ w', Rd w' A2 c2 l2 → Calls Try.prog 25 #[.slice A2 l2.length c2] w' fun e w2 => ∃ A' c' B' d', e = .returned (.tuple #[.agg (pkc Q A' c' B' d'), .int .i64 n]) ∧ OwnA w2 w'.heap.size (.slice A' Q.mac.length c') Q.mac ∧ OwnA w2 w'.heap.size (.slice B' Q.body.length d') Q.body ∧ Below w'.heap.size w' w2) := fun w' h => by rw [← hQ, ← hn]; exact pget A2 c2 l2 w' h (by omega)
  have gl := good_len hg
  have hQ2 : Q = parse l2 := by rw [← hQ]; unfold getP; rw [if_pos hg]
  have hn0 : n = 0 := by
    rw [← hn]; unfold errn
    rw [if_neg (by omega), if_neg (by omega), if_pos hg]
  subst hn0
  have HQok : Hid (Q.ok) := by rw [hQ2]; exact parse_ok l2 h2.b (by omega)
  have HQm : Hid (mayB Q = true) := by rw [hQ2]; exact gl.2.2
  have HQp : Hid (putL Q = l2) := by rw [hQ2]; exact put_back l2 h2.b hg
  have iq := (may_size HQm.out).2
  have IQ := Lib.hid iq
  clear iq
  have HQb : Hid (Bytes Q.mac ∧ Bytes Q.body) := bytes_of h2.b hQ
  have KQ : Hid (∀ w' A c B d, Rd w' A c Q.mac → Rd w' B d Q.body → Calls Try.prog 20 #[.agg (pkc Q A c B d)] w' fun e w2 => ∃ D f, e = .returned (.tuple #[.slice D l2.length f, .int .i64 0]) ∧ Rd w2 D f l2 ∧ Below w'.heap.size w' w2) := fun w' A c B d ha hb => by
    have := bput_yes Q HQok.out w' ha hb HQm.out
    rwa [HQp.out] at this
  clear gl hQ2 HQok HQm HQp hn hQ
  clear hA hB h2 hmb hg h1 h3
  go_enter Try.func9, Try.ntmps9
  go_wp2_with fail
  with_reducible refine (awake_any _).mono ?_
  rintro e w1 ⟨rfl, hb⟩
  have H1 : Hid (w1.heap[w.heap.size]? = some (.cells (pkc P A c B d) 45 (0, 0))) := (hb.block _ (by simp)).trans (heap_alloc_new w _)
  have HB1 : Hid (Below w.heap.size w w1) := Below.trans ((Below.refl _ _).alloc (Nat.le_refl _) _) (hb.mono (by simp))
  have q8 : w1.cell? ⟨w.heap.size, 8, none⟩ = some (.slice B P.body.length d) := (blk_cell H1.out 8).trans rfl
  clear hb
  go_wp2_with (refine load45 rfl _ rfl w.heap.size P A c B d rfl H1.out ?_)
  with_reducible refine (KP.out _ (HA.out.below HB1.out) (HBd.out.below HB1.out)).mono ?_
  rintro e w2 ⟨D, f, rfl, hD, hb⟩
  have H2 : Hid (w2.heap[w.heap.size]? = some (.cells (pkc P A c B d) 45 (0, 0))) := (hb.block _ (blk_lt H1.out)).trans H1.out
  have HB2 := Lib.hid (HB1.out.trans (hb.mono HB1.out.size))
  have HD := Lib.hid hD
  clear hb hD q8 H1 HB1
  go_wp2_with fail
  with_reducible refine (KG.out _ _ _ HD.out).mono ?_
  rintro e w3 ⟨A', c', B', d', rfl, hA', hB', hb⟩
  have H3 : Hid (w3.heap[w.heap.size]? = some (.cells (pkc P A c B d) 45 (0, 0))) := (hb.block _ (blk_lt H2.out)).trans H2.out
  have HB3 := Lib.hid (HB2.out.trans (hb.mono HB2.out.size))
  have HA' := Lib.hid hA'
  have HB' := Lib.hid hB'
  clear hA' hB'
  clear hb H2 HB2 KP KG HD
  have hal := Lib.hid (heap_alloc_new w3 (.cells z46 45))
  have hn := new_below w3 45 #[.int .i64 0, .int .u32 0, .int .u32 0, .int .i64 0, .int .i64 0, .int .i64 0, .slice none 0 0, .int .u64 0, .slice none 0 0] (pkc P A' c' B' d')
  obtain ⟨w5, hw5⟩ : ∃ x, (w3.alloc (.cells #[.int .i64 0, .int .u32 0, .int .u32 0, .int .i64 0, .int .i64 0, .int .i64 0, .slice none 0 0, .int .u64 0, .slice none 0 0] 45)).setRow w3.heap.size (pkc P A' c' B' d') = x := ⟨_, rfl⟩
  have H6 : Hid (w5.heap[w3.heap.size]? = some (.cells (pkc P A' c' B' d') 45 (0, 0))) := hw5 ▸ new_row w3 45 #[.int .i64 0, .int .u32 0, .int .u32 0, .int .i64 0, .int .i64 0, .int .i64 0, .slice none 0 0, .int .u64 0, .slice none 0 0] (pkc P A' c' B' d')
  rw [hw5] at hn
  have H5 : Hid (w5.heap[w.heap.size]? = some (.cells (pkc P A c B d) 45 (0, 0))) := (hn.block _ (blk_lt H3.out)).trans H3.out
  have HB5 := Lib.hid (HB3.out.trans (hn.mono HB3.out.size))
  have HA5' := Lib.hid (HA'.out.below hn)
  have HB5' := Lib.hid (HB'.out.below hn)
  have HA5 := Lib.hid (HA.out.below HB5.out)
  have HBd5 := Lib.hid (HBd.out.below HB5.out)
  have HR5 := Lib.hid (HR.out.below HB5.out)
  have HW5 := Lib.hid hw5
  clear hn hw5 H3 HB3 HA HBd HR HA' HB'
  go_upto_region 8 with (refine store45 rfl _ _ rfl w3.heap.size P A' c' B' d' rfl rfl hal.out ?_)
  rw [HW5.out]
  clear HW5 hal
  have ix := IX.out
  clear IX
  have HS : Hid (T2 w5 w3.heap.size w.heap.size (pkc P A' c' B' d') (pkc P A c B d) w5) := ⟨Below.refl _ _, H6.out, H5.out⟩
  clear H6 H5
  refine wp_region_held_drew (S := T2 w5 w3.heap.size w.heap.size (pkc P A' c' B' d') (pkc P A c B d)) (by kernel_rfl) HS.out.drew (fun hst => ?_)
  refine wpAnyH_take (i := 0) (oi := { dst := some 39, op := Op.move (Operand.tmp 7), type := 28, pos := "law.go:70", after := #[], guard := none }) (v := .int .i64 0) rfl (by kernel_rfl) (by kernel_rfl) (by kernel_rfl) (fun _ _ _ h => h) (Or.inl ⟨by rfl, fun w' _ => by rfl⟩) hst ?_
  simp only [Act.put, List.setIfInBounds_toArray, List.set_cons_zero, List.set_cons_succ]
  refine wpAnyH_take (i := 1) (oi := { dst := some 40, op := Op.binOp BinOp.eql 28 (Operand.tmp 39) (Operand.const (Value.int IntKind.i64 0)) 28, type := 4, pos := "law.go:70", after := #[{ on := 0, ground := Ground.data }], guard := none }) (v := .bool true) rfl (by kernel_rfl) (by kernel_rfl) (by kernel_rfl) (fun _ _ _ h => h) (Or.inl ⟨by rfl, fun w' _ => eq28 rfl rfl⟩) hst ?_
  simp only [Act.put, List.setIfInBounds_toArray, List.set_cons_zero, List.set_cons_succ]
  refine wpAnyH_take (i := 2) (oi := { dst := some 41, op := Op.move (Operand.tmp 40), type := 4, pos := "law.go:70", after := #[{ on := 1, ground := Ground.data }], guard := none }) (v := .bool true) rfl (by kernel_rfl) (by kernel_rfl) (by kernel_rfl) (fun _ _ _ h => h) (Or.inl ⟨by rfl, fun w' _ => by rfl⟩) hst ?_
  simp only [Act.put, List.setIfInBounds_toArray, List.set_cons_zero, List.set_cons_succ]
  refine wpAnyH_take (i := 3) (oi := { dst := some 42, op := Op.move (Operand.tmp 9), type := 28, pos := "law.go:70", after := #[{ on := 2, ground := Ground.guard }], guard := some (2, true) }) (v := .int .i64 0) rfl (by kernel_rfl) (by kernel_rfl) (by kernel_rfl) (fun _ _ _ h => h) (Or.inl ⟨by rfl, fun w' _ => by rfl⟩) hst ?_
  simp only [Act.put, List.setIfInBounds_toArray, List.set_cons_zero, List.set_cons_succ]
  refine wpAnyH_take (i := 4) (oi := { dst := some 43, op := Op.binOp BinOp.neq 28 (Operand.tmp 42) (Operand.const (Value.int IntKind.i64 0)) 28, type := 4, pos := "law.go:70", after := #[{ on := 3, ground := Ground.data }, { on := 2, ground := Ground.guard }], guard := some (2, true) }) (v := .bool false) rfl (by kernel_rfl) (by kernel_rfl) (by kernel_rfl) (fun _ _ _ h => h) (Or.inl ⟨by rfl, fun w' _ => neq28 rfl rfl⟩) hst ?_
  simp only [Act.put, List.setIfInBounds_toArray, List.set_cons_zero, List.set_cons_succ]
  refine wpAnyH_take (i := 5) (oi := { dst := some 44, op := Op.move (Operand.tmp 43), type := 4, pos := "law.go:70", after := #[{ on := 4, ground := Ground.data }, { on := 2, ground := Ground.chain }, { on := 2, ground := Ground.guard }], guard := some (2, true) }) (v := .bool false) rfl (by kernel_rfl) (by kernel_rfl) (by kernel_rfl) (fun _ _ _ h => h) (Or.inl ⟨by rfl, fun w' _ => by rfl⟩) hst ?_
  simp only [Act.put, List.setIfInBounds_toArray, List.set_cons_zero, List.set_cons_succ]
  refine wpAnyH_take (i := 6) (oi := { dst := some 45, op := Op.move (Operand.tmp 6), type := 37, pos := "law.go:70", after := #[{ on := 5, ground := Ground.guard }], guard := some (5, false) }) (v := .slice D x.length f) rfl (by kernel_rfl) (by kernel_rfl) (by kernel_rfl) (fun _ _ _ h => h) (Or.inl ⟨by rfl, fun w' _ => by rfl⟩) hst ?_
  simp only [Act.put, List.setIfInBounds_toArray, List.set_cons_zero, List.set_cons_succ]
  refine wpAnyH_take (i := 7) (oi := { dst := some 46, op := Op.call { callee := Callee.builtin Builtin.len, args := #[Operand.tmp 45], argTypes := #[37] }, type := 3, pos := "law.go:70", after := #[{ on := 6, ground := Ground.data }, { on := 5, ground := Ground.guard }], guard := some (5, false) }) (v := .int .i64 x.length) rfl (by kernel_rfl) (by kernel_rfl) (by kernel_rfl) (fun _ _ _ h => h) (Or.inl ⟨by rfl, fun w' _ => len37 rfl⟩) hst ?_
  simp only [Act.put, List.setIfInBounds_toArray, List.set_cons_zero, List.set_cons_succ]
  refine wpAnyH_take (i := 8) (oi := { dst := some 47, op := Op.binOp BinOp.gtr 3 (Operand.tmp 46) (Operand.const (Value.int IntKind.i64 1200)) 3, type := 4, pos := "law.go:70", after := #[{ on := 7, ground := Ground.data }, { on := 5, ground := Ground.guard }], guard := some (5, false) }) (v := .bool false) rfl (by kernel_rfl) (by kernel_rfl) (by kernel_rfl) (fun _ _ _ h => h) (Or.inl ⟨by rfl, fun w' _ => gtr3f rfl rfl ix⟩) hst ?_
  simp only [Act.put, List.setIfInBounds_toArray, List.set_cons_zero, List.set_cons_succ]
  refine wpAnyH_take (i := 9) (oi := { dst := some 48, op := Op.pick (Operand.tmp 44) (Operand.const (Value.bool true)) (Operand.tmp 47), type := 4, pos := "law.go:70", after := #[{ on := 5, ground := Ground.data }, { on := 8, ground := Ground.data }, { on := 2, ground := Ground.guard }], guard := some (2, true) }) (v := .bool false) rfl (by kernel_rfl) (by kernel_rfl) (by kernel_rfl) (fun _ _ _ h => h) (Or.inl ⟨by rfl, fun w' _ => by rfl⟩) hst ?_
  simp only [Act.put, List.setIfInBounds_toArray, List.set_cons_zero, List.set_cons_succ]
  refine wpAnyH_take (i := 10) (oi := { dst := some 49, op := Op.move (Operand.tmp 48), type := 4, pos := "law.go:70", after := #[{ on := 9, ground := Ground.data }, { on := 5, ground := Ground.chain }, { on := 2, ground := Ground.guard }], guard := some (2, true) }) (v := .bool false) rfl (by kernel_rfl) (by kernel_rfl) (by kernel_rfl) (fun _ _ _ h => h) (Or.inl ⟨by rfl, fun w' _ => by rfl⟩) hst ?_
  simp only [Act.put, List.setIfInBounds_toArray, List.set_cons_zero, List.set_cons_succ]
  refine wpAnyH_take (i := 11) (oi := { dst := some 50, op := Op.load 45 (Operand.tmp 8), type := 45, pos := "law.go:70", after := #[{ on := 10, ground := Ground.guard }], guard := some (10, false) }) (v := .agg (pkc P A' c' B' d')) rfl (by kernel_rfl) (by kernel_rfl) (by kernel_rfl) (fun _ _ _ h => h) (yl45a (by rfl) _ rfl rfl (isz45 P A' c' B' d')) hst ?_
  simp only [Act.put, List.setIfInBounds_toArray, List.set_cons_zero, List.set_cons_succ]
  refine wpAnyH_take (i := 13) (oi := { dst := some 52, op := Op.load 45 (Operand.tmp 2), type := 45, pos := "law.go:70", after := #[{ on := 10, ground := Ground.guard }], guard := some (10, false) }) (v := .agg (pkc P A c B d)) rfl (by kernel_rfl) (by kernel_rfl) (by kernel_rfl) (fun _ _ _ h => h) (yl45b (by rfl) _ rfl rfl (isz45 P A c B d)) hst ?_
  simp only [Act.put, List.setIfInBounds_toArray, List.set_cons_zero, List.set_cons_succ]
  refine wpAnyH_ready (rs := [12]) (by kernel_rfl) (by simp) ?_
  refine AllReadyH.cons (o := { dst := some 51, op := Op.call { callee := Callee.value (Operand.func 19), args := #[Operand.tmp 50], argTypes := #[45] }, type := 46, pos := "law.go:70", after := #[{ on := 11, ground := Ground.data }, { on := 10, ground := Ground.chain }, { on := 10, ground := Ground.guard }], guard := some (10, false) }) rfl (fun K hK => ?_) ?_
  · skip
    go_simp
    refine (pmodel P A' c' B' d' _).mono ?_
    rintro e ww3 ⟨rfl, hb2⟩
    refine hK.out _ _ (hst.call hb2) (fun hh1 => ?_)
    clear hK K
    refine wpAnyH_ready (rs := [14]) (by kernel_rfl) (by simp) ?_
    refine AllReadyH.cons (o := { dst := some 53, op := Op.call { callee := Callee.value (Operand.func 19), args := #[Operand.tmp 52], argTypes := #[45] }, type := 46, pos := "law.go:70", after := #[{ on := 13, ground := Ground.data }, { on := 12, ground := Ground.chain }, { on := 10, ground := Ground.guard }], guard := some (10, false) }) rfl (fun K hK => ?_) ?_
    · skip
      go_simp
      refine (pmodel P A c B d _).mono ?_
      rintro e ww7 ⟨rfl, hb6⟩
      refine hK.out _ _ (hh1.call hb6) (fun hh5 => ?_)
      clear hK K
      refine wpAnyH_ready (rs := [15]) (by kernel_rfl) (by simp) ?_
      refine AllReadyH.cons (o := { dst := some 54, op := Op.call { callee := Callee.value (Operand.func 27), args := #[Operand.tmp 51, Operand.tmp 53], argTypes := #[46, 46] }, type := 4, pos := "law.go:70", after := #[{ on := 12, ground := Ground.data }, { on := 14, ground := Ground.data }, { on := 14, ground := Ground.chain }, { on := 10, ground := Ground.guard }], guard := some (10, false) }) rfl (fun K hK => ?_) ?_
      · skip
        go_simp
        refine (psame P _ (HA5'.out.below hh5.below) (HB5'.out.below hh5.below) (HA5.out.below hh5.below) (HBd5.out.below hh5.below)).mono ?_
        rintro e ww11 ⟨rfl, hb10⟩
        refine hK.out _ _ (hh5.call hb10) (fun hh9 => ?_)
        clear hK K
        refine wpAnyH_take (i := 16) (oi := { dst := some 55, op := Op.unOp UnOp.not 4 (Operand.tmp 54), type := 4, pos := "law.go:70", after := #[{ on := 15, ground := Ground.data }, { on := 10, ground := Ground.guard }], guard := some (10, false) }) (v := .bool false) rfl (by kernel_rfl) (by kernel_rfl) (by kernel_rfl) (fun _ _ _ h => h) (Or.inl ⟨by rfl, fun w' _ => by rfl⟩) hh9 ?_
        simp only [Act.put, List.setIfInBounds_toArray, List.set_cons_zero, List.set_cons_succ]
        refine wpAnyH_take (i := 17) (oi := { dst := some 56, op := Op.pick (Operand.tmp 49) (Operand.const (Value.bool true)) (Operand.tmp 55), type := 4, pos := "law.go:70", after := #[{ on := 10, ground := Ground.data }, { on := 16, ground := Ground.data }, { on := 2, ground := Ground.guard }], guard := some (2, true) }) (v := .bool false) rfl (by kernel_rfl) (by kernel_rfl) (by kernel_rfl) (fun _ _ _ h => h) (Or.inl ⟨by rfl, fun w' _ => by rfl⟩) hh9 ?_
        simp only [Act.put, List.setIfInBounds_toArray, List.set_cons_zero, List.set_cons_succ]
        refine wpAnyH_take (i := 18) (oi := { dst := some 57, op := Op.pick (Operand.tmp 41) (Operand.tmp 56) (Operand.const (Value.bool false)), type := 4, pos := "law.go:70", after := #[{ on := 2, ground := Ground.data }, { on := 17, ground := Ground.data }], guard := none }) (v := .bool false) rfl (by kernel_rfl) (by kernel_rfl) (by kernel_rfl) (fun _ _ _ h => h) (Or.inl ⟨by rfl, fun w' _ => by rfl⟩) hh9 ?_
        simp only [Act.put, List.setIfInBounds_toArray, List.set_cons_zero, List.set_cons_succ]
        refine wpAnyH_done (by kernel_rfl) ?_ _
        have HZ := Lib.hid hh9
        have HB6 := Lib.hid (HB5.out.trans (HZ.out.below.mono HB5.out.size))
        have HR6 := Lib.hid (HR5.out.below HZ.out.below)
        clear HZ HS HB5 HR5 HA5 HBd5 HA5' HB5'
        go_wp2_with fail
        with_reducible refine (KB.out _ HR6.out).mono ?_
        rintro e w6 ⟨A9, c9, B9, d9, rfl, hA, hB, hb⟩
        have HH : ∃ W0 : World, Rd W0 A2 c2 l2 ∧ Below w.heap.size w W0 ∧ OwnA w6 W0.heap.size (.slice A9 Q.mac.length c9) Q.mac ∧ OwnA w6 W0.heap.size (.slice B9 Q.body.length d9) Q.body ∧ Below W0.heap.size W0 w6 := ⟨_, HR6.out, HB6.out, hA, hB, hb⟩
        clear hA hB hb HR6 HB6 KB
        obtain ⟨W0, hR0, hBW0, hA, hB, hb⟩ := HH
        have HR0 := Lib.hid hR0
        have HBW := Lib.hid hBW0
        have hal := Lib.hid (heap_alloc_new w6 (.cells z46 45))
        have hn := new_below w6 45 #[.int .i64 0, .int .u32 0, .int .u32 0, .int .i64 0, .int .i64 0, .int .i64 0, .slice none 0 0, .int .u64 0, .slice none 0 0] (pkc Q A9 c9 B9 d9)
        obtain ⟨w7, hw7⟩ : ∃ x, (w6.alloc (.cells #[.int .i64 0, .int .u32 0, .int .u32 0, .int .i64 0, .int .i64 0, .int .i64 0, .slice none 0 0, .int .u64 0, .slice none 0 0] 45)).setRow w6.heap.size (pkc Q A9 c9 B9 d9) = x := ⟨_, rfl⟩
        have H7 : Hid (w7.heap[w6.heap.size]? = some (.cells (pkc Q A9 c9 B9 d9) 45 (0, 0))) := hw7 ▸ new_row w6 45 #[.int .i64 0, .int .u32 0, .int .u32 0, .int .i64 0, .int .i64 0, .int .i64 0, .slice none 0 0, .int .u64 0, .slice none 0 0] (pkc Q A9 c9 B9 d9)
        rw [hw7] at hn
        have HB7 := Lib.hid (hb.trans (hn.mono hb.size))
        have HW7 := Lib.hid hw7
        have HA7 := Lib.hid (hA.below hn)
        have HBo7 := Lib.hid (hB.below hn)
        have hge6 : W0.heap.size ≤ w6.heap.size := hb.size
        have HAr := Lib.hid (HA7.out.rd HQb.out.1).2
        have HBr := Lib.hid (HBo7.out.rd HQb.out.2).2
        obtain ⟨gb, cs, hgb0⟩ : ∃ (gb : Nat) (cs : Array Value), 0 < Q.body.length → B9 = some ⟨gb, 0, none⟩ ∧ W0.heap.size ≤ gb ∧ gb < w6.heap.size ∧ w7.heap[gb]? = some (.cells cs 5 (0, 0)) := by
          by_cases h0 : 0 < Q.body.length
          · obtain ⟨gb, cap, ev, hge, hgl, hgk⟩ := Kd.R_form hB h0
            cases ev
            obtain ⟨cs, hcs⟩ := hgk
            exact ⟨gb, cs, fun _ => ⟨rfl, hge, hgl, (hn.block _ hgl).trans hcs⟩⟩
          · exact ⟨0, #[], fun h => absurd h h0⟩
        clear hn hw7 hA hB hb hR0 hBW0 HA7
        go_upto_region 11 with (refine store45 rfl _ _ rfl w6.heap.size Q A9 c9 B9 d9 rfl rfl hal.out ?_)
        rw [HW7.out]
        clear HW7 hal
        obtain ⟨g6, hg6⟩ : ∃ x, w6.heap.size = x := ⟨_, rfl⟩
        rw [hg6] at H7 hge6 hgb0
        simp only [hg6]
        clear hg6
        go_wp2_with (refine load45 rfl _ rfl g6 Q A9 c9 B9 d9 rfl H7.out ?_)
        with_reducible refine (KQ.out _ _ _ _ _ HAr.out HBr.out).mono ?_
        rintro e w8 ⟨D9, f9, rfl, hD, hb⟩
        have H8 : Hid (w8.heap[g6]? = some (.cells (pkc Q A9 c9 B9 d9) 45 (0, 0))) := (hb.block _ (blk_lt H7.out)).trans H7.out
        have HB8 := Lib.hid (HB7.out.trans (hb.mono HB7.out.size))
        have HBo8 := Lib.hid (HBo7.out.below hb)
        have HR8 := Lib.hid (HR0.out.below HB8.out)
        have hgb : ∀ h0 : 0 < Q.body.length, B9 = some ⟨gb, 0, none⟩ ∧ W0.heap.size ≤ gb ∧ gb ≠ g6 ∧ w8.heap[gb]? = some (.cells cs 5 (0, 0)) ∧ ∀ k, k < Q.body.length → ∃ x, cs[k]? = some (.int .u8 x) := fun h0 => by
          obtain ⟨e1, h4, h5, h7⟩ := hgb0 h0
          have h8 := (hb.block _ (blk_lt h7)).trans h7
          refine ⟨e1, h4, by omega, h8, fun j hj => ?_⟩
          obtain ⟨ad, e2, _, h6⟩ := (HBo8.out.rd HQb.out.2).2.at h0
          rw [e1] at e2
          cases e2
          have := h6 j hj
          rw [addr0, blk_cell h8 j] at this
          exact ⟨_, this⟩
        have HGB := Lib.hid hgb
        have q1 := conv_C (c := f9) hD.r
        have q2 := conv_C (c := c2) HR8.out.r
        clear hgb hgb0 hD hb HBo7 HBo8 HAr HBr KQ H7 HB7 HQb
        go_wp2_with fail
        clear q1 q2 HR8
        go_loopw [16] (fun i wr => ∃ j : Nat, j ≤ Q.body.length ∧ i = .int .i64 j ∧ Below W0.heap.size W0 wr ∧ wr.heap[g6]? = some (.cells (pkc Q A9 c9 B9 d9) 45 (0, 0)) ∧ (0 < Q.body.length → ∃ cs, wr.heap[gb]? = some (.cells cs 5 (0, 0)) ∧ ∀ k, k < Q.body.length → ∃ x, cs[k]? = some (.int .u8 x))) (fun i _ => Q.body.length - (intOf i).toNat)
        case atStart => exact ⟨0, by omega, rfl, HB8.out, H8.out, fun h0 => ⟨cs, (HGB.out h0).2.2.2⟩⟩
        case round =>
          have hgb : 0 < Q.body.length → B9 = some ⟨gb, 0, none⟩ ∧ W0.heap.size ≤ gb ∧ gb ≠ g6 := fun h => ⟨(HGB.out h).1, (HGB.out h).2.1, (HGB.out h).2.2.1⟩
          clear HB8 H8 HGB
          obtain ⟨j, hj, rfl, hB, h8, hc⟩ := hrel
          have HB := Lib.hid hB
          have H8 := Lib.hid h8
          have HC := Lib.hid hc
          have q8 : wr.cell? ⟨g6, 8, none⟩ = some (.slice B9 Q.body.length d9) := (blk_cell h8 8).trans rfl
          clear hB h8 hc
          by_cases hlt : (j : Int) < (Q.body.length : Int)
          · obtain ⟨e1, hge, hne⟩ := hgb (by omega)
            obtain ⟨cs, hcs, hck⟩ := HC.out (by omega)
            obtain ⟨x9, hx9'⟩ := hck j (by omega)
            have hx9 : wr.cell? ⟨gb, j, none⟩ = some (.int .u8 x9) := (blk_cell hcs j).trans hx9'
            have hfz : wr.frozen? ⟨gb, j, none⟩ = false := by unfold World.frozen?; rw [hcs]; simp
            have HCS := Lib.hid hcs
            have HCK := Lib.hid hck
            clear hcs hck hx9'
            subst e1
            have hj0 : (0 : Int) ≤ (j : Int) := by omega
            have iq := IQ.out
            have hj9 : (j : Int) ≤ 1187 := by omega
            go_upto_region 19 with fail
            refine wp_region_held_drew (S := fun w' => w'.cell? ⟨g6, 8, none⟩ = some (.slice (some ⟨gb, 0, none⟩) Q.body.length d9)) (by kernel_rfl) (by first | exact q8 | go_keep) (fun hst => ?_)
            refine wpAnyH_take (i := 0) (oi := { dst := some 91, op := Op.fieldAddr 45 (Operand.tmp 10) 8, type := 0, pos := "law.go:81", after := #[], guard := none }) (v := .pointer (some ⟨g6, 8, none⟩)) rfl (by kernel_rfl) (by kernel_rfl) (by kernel_rfl) (fun _ _ _ h => h) (Or.inl ⟨by rfl, fun w' _ => by rfl⟩) hst ?_
            simp only [Act.put, List.setIfInBounds_toArray, List.set_cons_zero, List.set_cons_succ]
            refine wpAnyH_take (i := 1) (oi := { dst := some 92, op := Op.load 37 (Operand.tmp 91), type := 37, pos := "law.go:81", after := #[{ on := 0, ground := Ground.data }], guard := none }) (v := .slice (some ⟨gb, 0, none⟩) Q.body.length d9) rfl (by kernel_rfl) (by kernel_rfl) (by kernel_rfl) (fun _ _ _ h => h) (Or.inl ⟨by rfl, fun w' hS => by unfold execOp; simp [go_sem, hS, Instr.loadAt, Instr.sureAddr]⟩) hst ?_
            simp only [Act.put, List.setIfInBounds_toArray, List.set_cons_zero, List.set_cons_succ]
            refine wpAnyH_take (i := 2) (oi := { dst := some 93, op := Op.move (Operand.tmp 16), type := 3, pos := "law.go:81", after := #[], guard := none }) (v := .int .i64 j) rfl (by kernel_rfl) (by kernel_rfl) (by kernel_rfl) (fun _ _ _ h => h) (Or.inl ⟨by rfl, fun w' _ => by rfl⟩) hst ?_
            simp only [Act.put, List.setIfInBounds_toArray, List.set_cons_zero, List.set_cons_succ]
            refine wpAnyH_take (i := 3) (oi := { dst := some 94, op := Op.fieldAddr 45 (Operand.tmp 10) 8, type := 0, pos := "law.go:81", after := #[], guard := none }) (v := .pointer (some ⟨g6, 8, none⟩)) rfl (by kernel_rfl) (by kernel_rfl) (by kernel_rfl) (fun _ _ _ h => h) (Or.inl ⟨by rfl, fun w' _ => by rfl⟩) hst ?_
            simp only [Act.put, List.setIfInBounds_toArray, List.set_cons_zero, List.set_cons_succ]
            refine wpAnyH_take (i := 4) (oi := { dst := some 95, op := Op.load 37 (Operand.tmp 94), type := 37, pos := "law.go:81", after := #[{ on := 3, ground := Ground.data }], guard := none }) (v := .slice (some ⟨gb, 0, none⟩) Q.body.length d9) rfl (by kernel_rfl) (by kernel_rfl) (by kernel_rfl) (fun _ _ _ h => h) (Or.inl ⟨by rfl, fun w' hS => by unfold execOp; simp [go_sem, hS, Instr.loadAt, Instr.sureAddr]⟩) hst ?_
            simp only [Act.put, List.setIfInBounds_toArray, List.set_cons_zero, List.set_cons_succ]
            refine wpAnyH_take (i := 5) (oi := { dst := some 96, op := Op.move (Operand.tmp 16), type := 3, pos := "law.go:81", after := #[], guard := none }) (v := .int .i64 j) rfl (by kernel_rfl) (by kernel_rfl) (by kernel_rfl) (fun _ _ _ h => h) (Or.inl ⟨by rfl, fun w' _ => by rfl⟩) hst ?_
            simp only [Act.put, List.setIfInBounds_toArray, List.set_cons_zero, List.set_cons_succ]
            refine wpAnyH_take (i := 6) (oi := { dst := some 97, op := Op.indexAddr 37 (Operand.tmp 95) (Operand.tmp 96), type := 0, pos := "law.go:81", after := #[{ on := 4, ground := Ground.data }, { on := 5, ground := Ground.data }], guard := none }) (v := .pointer (some ⟨gb, j, none⟩)) rfl (by kernel_rfl) (by kernel_rfl) (by kernel_rfl) (fun _ _ _ h => h) (Or.inl ⟨by rfl, fun w' hS => by unfold execOp; simp [go_sem, hlt, hj0]⟩) hst ?_
            simp only [Act.put, List.setIfInBounds_toArray, List.set_cons_zero, List.set_cons_succ]
            refine wpAnyH_ready (rs := [7]) (by kernel_rfl) (by simp) ?_
            refine AllReadyH.cons (o := { dst := some 98, op := Op.load 5 (Operand.tmp 97), type := 5, pos := "law.go:81", after := #[{ on := 6, ground := Ground.data }], guard := none }) rfl (fun K hK => ?_) ?_
            · skip
              go_simp
              refine hK.out _ _ hst (fun hh1 => ?_)
              clear hK K
              refine wpAnyH_take (i := 8) (oi := { dst := some 99, op := Op.binOp BinOp.xor 5 (Operand.tmp 98) (Operand.const (Value.int IntKind.u8 255)) 5, type := 5, pos := "law.go:81", after := #[{ on := 7, ground := Ground.data }], guard := none }) (v := .int .u8 (bits .xor .u8 x9 255)) rfl (by kernel_rfl) (by kernel_rfl) (by kernel_rfl) (fun _ _ _ h => h) (Or.inl ⟨by rfl, fun w' _ => by rfl⟩) hh1 ?_
              simp only [Act.put, List.setIfInBounds_toArray, List.set_cons_zero, List.set_cons_succ]
              refine wpAnyH_take (i := 9) (oi := { dst := some 100, op := Op.indexAddr 37 (Operand.tmp 92) (Operand.tmp 93), type := 0, pos := "law.go:81", after := #[{ on := 1, ground := Ground.data }, { on := 2, ground := Ground.data }, { on := 0, ground := Ground.phase }, { on := 1, ground := Ground.phase }, { on := 2, ground := Ground.phase }, { on := 3, ground := Ground.phase }, { on := 4, ground := Ground.phase }, { on := 5, ground := Ground.phase }, { on := 6, ground := Ground.phase }, { on := 7, ground := Ground.phase }, { on := 8, ground := Ground.phase }], guard := none }) (v := .pointer (some ⟨gb, j, none⟩)) rfl (by kernel_rfl) (by kernel_rfl) (by kernel_rfl) (fun _ _ _ h => h) (Or.inl ⟨by rfl, fun w' hS => by unfold execOp; simp [go_sem, hlt, hj0]⟩) hh1 ?_
              simp only [Act.put, List.setIfInBounds_toArray, List.set_cons_zero, List.set_cons_succ]
              refine wpAnyH_ready (rs := [10]) (by kernel_rfl) (by simp) ?_
              refine AllReadyH.cons (o := { dst := none, op := Op.store 5 (Operand.tmp 100) (Operand.tmp 99), type := 0, pos := "law.go:81", after := #[{ on := 9, ground := Ground.data }, { on := 8, ground := Ground.data }, { on := 0, ground := Ground.phase }, { on := 1, ground := Ground.phase }, { on := 2, ground := Ground.phase }, { on := 3, ground := Ground.phase }, { on := 4, ground := Ground.phase }, { on := 5, ground := Ground.phase }, { on := 6, ground := Ground.phase }, { on := 7, ground := Ground.phase }, { on := 8, ground := Ground.phase }], guard := none }) rfl (fun K hK => ?_) ?_
              · skip
                go_simp
                refine hK.out _ _ (keep1 (show g6 ≠ gb from fun h => hne h.symm) q8) (fun hh2 => ?_)
                clear hK K
                refine wpAnyH_done (by kernel_rfl) ?_ _
                go_wp2_with fail
                go_roundw
                case rel =>
                  refine ⟨j + 1, by omega, by go_num, ?_, ?_, fun h0 => ⟨cs.setIfInBounds j (.int .u8 (bits .xor .u8 x9 255)), ?_, fun k hk => ?_⟩⟩
                  · exact (HB.out.setCell (show W0.heap.size ≤ gb from hge) _).drew
                  · exact (heap_setCell_other wr ⟨gb, j, none⟩ g6 _ (show g6 ≠ gb from fun h => hne h.symm)).trans H8.out
                  · exact heap_setCell_same _ _ _ _ _ _ HCS.out
                  · by_cases hkj : k = j
                    · subst hkj
                      obtain ⟨y, hy⟩ := HCK.out k hk
                      have hs : k < cs.size := by
                        rcases Nat.lt_or_ge k cs.size with h | h
                        · exact h
                        · rw [Array.getElem?_eq_none h] at hy; cases hy
                      exact ⟨_, by rw [Array.getElem?_setIfInBounds_self_of_lt hs]⟩
                    · obtain ⟨y, hy⟩ := HCK.out k hk
                      exact ⟨y, by rw [Array.getElem?_setIfInBounds_ne (by omega)]; exact hy⟩
                case measure => simp [intOf] <;> omega
              exact AllReadyH.nil
            exact AllReadyH.nil
          · have HRr := Lib.hid (HR0.out.below HB.out)
            have q2 := conv_C (c := c2) HRr.out.r
            go_wp2_with fail
            go_ret
            exact ⟨rfl, HBW.out.trans (HB.out.mono HBW.out.size)⟩
      exact AllReadyH.nil
    exact AllReadyH.nil
  exact AllReadyH.nil
set_option maxHeartbeats 8000000 in
set_option maxRecDepth 100000 in
theorem back_nn (w : World) (P : Pk) (hP : P.ok) {A B : Option Addr} {c d : Nat} (hA : Rd w A c P.mac) (hB : Rd w B d P.body) (hmb : mayB P = false) (h1 : P.body.length ≤ 3000)
    {A2 : Option Addr} {c2 : Nat} {l2 : List Int} (h2 : Rd w A2 c2 l2) (h3 : l2.length ≤ 3000) (hg : good l2 = false) :
    Calls Try.prog 9 #[.agg (pkc P A c B d), .slice A2 l2.length c2] w fun e w' => e = .returned (.bool true) ∧ Below w.heap.size w w' := by
  have HA := Lib.hid hA
  have HBd := Lib.hid hB
  have HR := Lib.hid h2
  have i0 : (P.body.length : Int) ≤ 3000 := by omega
  have i1 : (l2.length : Int) ≤ 3000 := by omega
  have KP : Hid (∀ w', Rd w' A c P.mac → Rd w' B d P.body → Calls Try.prog 20 #[.agg (pkc P A c B d)] w' fun e w2 => ∃ D f, e = .returned (.tuple #[.slice D 0 f, .int .i64 1]) ∧ Rd w2 D f [] ∧ Below w'.heap.size w' w2) := fun w' ha hb => bput_no P hP w' ha hb hmb
  obtain ⟨Q0, hQ0⟩ : ∃ Q, getP [] = Q := ⟨_, rfl⟩
  obtain ⟨n0, hn0⟩ : ∃ n, errn [] = n := ⟨_, rfl⟩
  have KG : Hid (∀ w' D f, Rd w' D f [] → Calls Try.prog 25 #[.slice D 0 f] w' fun e w2 => ∃ A' c' B' d', e = .returned (.tuple #[.agg (pkc Q0 A' c' B' d'), .int .i64 n0]) ∧ Below w'.heap.size w' w2) := fun w' D f h => by
    have := pget D f [] w' h (by simp)
    rw [hQ0, hn0] at this
    refine this.mono ?_
    rintro e w2 ⟨A', c', B', d', rfl, hA', hB', hb'⟩
    exact ⟨A', c', B', d', rfl, hb'⟩
  clear hQ0 hn0
  obtain ⟨n, hn⟩ : ∃ n, errn l2 = n := ⟨_, rfl⟩
  obtain ⟨Q, hQ⟩ : ∃ Q, getP l2 = Q := ⟨_, rfl⟩
  have KB : Hid (∀ w', Rd w' A2 c2 l2 → Calls Try.prog 25 #[.slice A2 l2.length c2] w' fun e w2 => ∃ A' c' B' d', e = .returned (.tuple #[.agg (pkc Q A' c' B' d'), .int .i64 n]) ∧ OwnA w2 w'.heap.size (.slice A' Q.mac.length c') Q.mac ∧ OwnA w2 w'.heap.size (.slice B' Q.body.length d') Q.body ∧ Below w'.heap.size w' w2) := fun w' h => by rw [← hQ, ← hn]; exact pget A2 c2 l2 w' h (by omega)
  have hn3 : n = 13 ∨ n = 14 ∨ n = 40 := by rw [← hn]; exact errn_bad hg
  have hk : Q.k = 0 := by rw [← hQ]; unfold getP; rw [hg]; rfl
  have HN := Lib.hid hn3
  have HK := Lib.hid hk
  clear hn3 hk hn hQ
  clear hA hB h2 hmb hg h1 h3
  go_enter Try.func9, Try.ntmps9
  go_wp2_with fail
  with_reducible refine (awake_any _).mono ?_
  rintro e w1 ⟨rfl, hb⟩
  have H1 : Hid (w1.heap[w.heap.size]? = some (.cells (pkc P A c B d) 45 (0, 0))) := (hb.block _ (by simp)).trans (heap_alloc_new w _)
  have HB1 : Hid (Below w.heap.size w w1) := Below.trans ((Below.refl _ _).alloc (Nat.le_refl _) _) (hb.mono (by simp))
  have q8 : w1.cell? ⟨w.heap.size, 8, none⟩ = some (.slice B P.body.length d) := (blk_cell H1.out 8).trans rfl
  clear hb
  go_wp2_with (refine load45 rfl _ rfl w.heap.size P A c B d rfl H1.out ?_)
  with_reducible refine (KP.out _ (HA.out.below HB1.out) (HBd.out.below HB1.out)).mono ?_
  rintro e w2 ⟨D, f, rfl, hD, hb⟩
  have H2 : Hid (w2.heap[w.heap.size]? = some (.cells (pkc P A c B d) 45 (0, 0))) := (hb.block _ (blk_lt H1.out)).trans H1.out
  have HB2 := Lib.hid (HB1.out.trans (hb.mono HB1.out.size))
  have HD := Lib.hid hD
  clear hb hD q8 H1 HB1
  go_wp2_with fail
  with_reducible refine (KG.out _ _ _ HD.out).mono ?_
  rintro e w3 ⟨A', c', B', d', rfl, hb⟩
  have H3 : Hid (w3.heap[w.heap.size]? = some (.cells (pkc P A c B d) 45 (0, 0))) := (hb.block _ (blk_lt H2.out)).trans H2.out
  have HB3 := Lib.hid (HB2.out.trans (hb.mono HB2.out.size))
  clear hb H2 HB2 KP KG HD
  have hal := Lib.hid (heap_alloc_new w3 (.cells z46 45))
  have hn := new_below w3 45 #[.int .i64 0, .int .u32 0, .int .u32 0, .int .i64 0, .int .i64 0, .int .i64 0, .slice none 0 0, .int .u64 0, .slice none 0 0] (pkc Q0 A' c' B' d')
  obtain ⟨w5, hw5⟩ : ∃ x, (w3.alloc (.cells #[.int .i64 0, .int .u32 0, .int .u32 0, .int .i64 0, .int .i64 0, .int .i64 0, .slice none 0 0, .int .u64 0, .slice none 0 0] 45)).setRow w3.heap.size (pkc Q0 A' c' B' d') = x := ⟨_, rfl⟩
  have H6 : Hid (w5.heap[w3.heap.size]? = some (.cells (pkc Q0 A' c' B' d') 45 (0, 0))) := hw5 ▸ new_row w3 45 #[.int .i64 0, .int .u32 0, .int .u32 0, .int .i64 0, .int .i64 0, .int .i64 0, .slice none 0 0, .int .u64 0, .slice none 0 0] (pkc Q0 A' c' B' d')
  rw [hw5] at hn
  have H5 : Hid (w5.heap[w.heap.size]? = some (.cells (pkc P A c B d) 45 (0, 0))) := (hn.block _ (blk_lt H3.out)).trans H3.out
  have HB5 := Lib.hid (HB3.out.trans (hn.mono HB3.out.size))
  have HA5 := Lib.hid (HA.out.below HB5.out)
  have HBd5 := Lib.hid (HBd.out.below HB5.out)
  have HR5 := Lib.hid (HR.out.below HB5.out)
  have HW5 := Lib.hid hw5
  clear hn hw5 H3 HB3 HA HBd HR
  go_upto_region 8 with (refine store45 rfl _ _ rfl w3.heap.size Q0 A' c' B' d' rfl rfl hal.out ?_)
  rw [HW5.out]
  clear HW5 hal
  have HS : Hid (T2 w5 w3.heap.size w.heap.size (pkc Q0 A' c' B' d') (pkc P A c B d) w5) := ⟨Below.refl _ _, H6.out, H5.out⟩
  clear H6 H5
  refine wp_region_held_drew (S := T2 w5 w3.heap.size w.heap.size (pkc Q0 A' c' B' d') (pkc P A c B d)) (by kernel_rfl) HS.out.drew (fun hst => ?_)
  refine wpAnyH_take (i := 0) (oi := { dst := some 39, op := Op.move (Operand.tmp 7), type := 28, pos := "law.go:70", after := #[], guard := none }) (v := .int .i64 1) rfl (by kernel_rfl) (by kernel_rfl) (by kernel_rfl) (fun _ _ _ h => h) (Or.inl ⟨by rfl, fun w' _ => by rfl⟩) hst ?_
  simp only [Act.put, List.setIfInBounds_toArray, List.set_cons_zero, List.set_cons_succ]
  refine wpAnyH_take (i := 1) (oi := { dst := some 40, op := Op.binOp BinOp.eql 28 (Operand.tmp 39) (Operand.const (Value.int IntKind.i64 0)) 28, type := 4, pos := "law.go:70", after := #[{ on := 0, ground := Ground.data }], guard := none }) (v := .bool false) rfl (by kernel_rfl) (by kernel_rfl) (by kernel_rfl) (fun _ _ _ h => h) (Or.inl ⟨by rfl, fun w' _ => eq28n rfl rfl (by omega)⟩) hst ?_
  simp only [Act.put, List.setIfInBounds_toArray, List.set_cons_zero, List.set_cons_succ]
  refine wpAnyH_take (i := 2) (oi := { dst := some 41, op := Op.move (Operand.tmp 40), type := 4, pos := "law.go:70", after := #[{ on := 1, ground := Ground.data }], guard := none }) (v := .bool false) rfl (by kernel_rfl) (by kernel_rfl) (by kernel_rfl) (fun _ _ _ h => h) (Or.inl ⟨by rfl, fun w' _ => by rfl⟩) hst ?_
  simp only [Act.put, List.setIfInBounds_toArray, List.set_cons_zero, List.set_cons_succ]
  refine wpAnyH_take (i := 3) (oi := { dst := some 42, op := Op.move (Operand.tmp 9), type := 28, pos := "law.go:70", after := #[{ on := 2, ground := Ground.guard }], guard := some (2, true) }) (v := undef) rfl (by kernel_rfl) (by kernel_rfl) (by kernel_rfl) (fun _ _ _ h => h) (Or.inr ⟨by kernel_rfl, rfl⟩) hst ?_
  simp only [Act.put, List.setIfInBounds_toArray, List.set_cons_zero, List.set_cons_succ]
  refine wpAnyH_take (i := 4) (oi := { dst := some 43, op := Op.binOp BinOp.neq 28 (Operand.tmp 42) (Operand.const (Value.int IntKind.i64 0)) 28, type := 4, pos := "law.go:70", after := #[{ on := 3, ground := Ground.data }, { on := 2, ground := Ground.guard }], guard := some (2, true) }) (v := undef) rfl (by kernel_rfl) (by kernel_rfl) (by kernel_rfl) (fun _ _ _ h => h) (Or.inr ⟨by kernel_rfl, rfl⟩) hst ?_
  simp only [Act.put, List.setIfInBounds_toArray, List.set_cons_zero, List.set_cons_succ]
  refine wpAnyH_take (i := 5) (oi := { dst := some 44, op := Op.move (Operand.tmp 43), type := 4, pos := "law.go:70", after := #[{ on := 4, ground := Ground.data }, { on := 2, ground := Ground.chain }, { on := 2, ground := Ground.guard }], guard := some (2, true) }) (v := undef) rfl (by kernel_rfl) (by kernel_rfl) (by kernel_rfl) (fun _ _ _ h => h) (Or.inr ⟨by kernel_rfl, rfl⟩) hst ?_
  simp only [Act.put, List.setIfInBounds_toArray, List.set_cons_zero, List.set_cons_succ]
  refine wpAnyH_take (i := 6) (oi := { dst := some 45, op := Op.move (Operand.tmp 6), type := 37, pos := "law.go:70", after := #[{ on := 5, ground := Ground.guard }], guard := some (5, false) }) (v := undef) rfl (by kernel_rfl) (by kernel_rfl) (by kernel_rfl) (fun _ _ _ h => h) (Or.inr ⟨by kernel_rfl, rfl⟩) hst ?_
  simp only [Act.put, List.setIfInBounds_toArray, List.set_cons_zero, List.set_cons_succ]
  refine wpAnyH_take (i := 7) (oi := { dst := some 46, op := Op.call { callee := Callee.builtin Builtin.len, args := #[Operand.tmp 45], argTypes := #[37] }, type := 3, pos := "law.go:70", after := #[{ on := 6, ground := Ground.data }, { on := 5, ground := Ground.guard }], guard := some (5, false) }) (v := undef) rfl (by kernel_rfl) (by kernel_rfl) (by kernel_rfl) (fun _ _ _ h => h) (Or.inr ⟨by kernel_rfl, rfl⟩) hst ?_
  simp only [Act.put, List.setIfInBounds_toArray, List.set_cons_zero, List.set_cons_succ]
  refine wpAnyH_take (i := 8) (oi := { dst := some 47, op := Op.binOp BinOp.gtr 3 (Operand.tmp 46) (Operand.const (Value.int IntKind.i64 1200)) 3, type := 4, pos := "law.go:70", after := #[{ on := 7, ground := Ground.data }, { on := 5, ground := Ground.guard }], guard := some (5, false) }) (v := undef) rfl (by kernel_rfl) (by kernel_rfl) (by kernel_rfl) (fun _ _ _ h => h) (Or.inr ⟨by kernel_rfl, rfl⟩) hst ?_
  simp only [Act.put, List.setIfInBounds_toArray, List.set_cons_zero, List.set_cons_succ]
  refine wpAnyH_take (i := 9) (oi := { dst := some 48, op := Op.pick (Operand.tmp 44) (Operand.const (Value.bool true)) (Operand.tmp 47), type := 4, pos := "law.go:70", after := #[{ on := 5, ground := Ground.data }, { on := 8, ground := Ground.data }, { on := 2, ground := Ground.guard }], guard := some (2, true) }) (v := undef) rfl (by kernel_rfl) (by kernel_rfl) (by kernel_rfl) (fun _ _ _ h => h) (Or.inr ⟨by kernel_rfl, rfl⟩) hst ?_
  simp only [Act.put, List.setIfInBounds_toArray, List.set_cons_zero, List.set_cons_succ]
  refine wpAnyH_take (i := 10) (oi := { dst := some 49, op := Op.move (Operand.tmp 48), type := 4, pos := "law.go:70", after := #[{ on := 9, ground := Ground.data }, { on := 5, ground := Ground.chain }, { on := 2, ground := Ground.guard }], guard := some (2, true) }) (v := undef) rfl (by kernel_rfl) (by kernel_rfl) (by kernel_rfl) (fun _ _ _ h => h) (Or.inr ⟨by kernel_rfl, rfl⟩) hst ?_
  simp only [Act.put, List.setIfInBounds_toArray, List.set_cons_zero, List.set_cons_succ]
  refine wpAnyH_take (i := 11) (oi := { dst := some 50, op := Op.load 45 (Operand.tmp 8), type := 45, pos := "law.go:70", after := #[{ on := 10, ground := Ground.guard }], guard := some (10, false) }) (v := undef) rfl (by kernel_rfl) (by kernel_rfl) (by kernel_rfl) (fun _ _ _ h => h) (Or.inr ⟨by kernel_rfl, rfl⟩) hst ?_
  simp only [Act.put, List.setIfInBounds_toArray, List.set_cons_zero, List.set_cons_succ]
  refine wpAnyH_take (i := 12) (oi := { dst := some 51, op := Op.call { callee := Callee.value (Operand.func 19), args := #[Operand.tmp 50], argTypes := #[45] }, type := 46, pos := "law.go:70", after := #[{ on := 11, ground := Ground.data }, { on := 10, ground := Ground.chain }, { on := 10, ground := Ground.guard }], guard := some (10, false) }) (v := undef) rfl (by kernel_rfl) (by kernel_rfl) (by kernel_rfl) (fun _ _ _ h => h) (Or.inr ⟨by kernel_rfl, rfl⟩) hst ?_
  simp only [Act.put, List.setIfInBounds_toArray, List.set_cons_zero, List.set_cons_succ]
  refine wpAnyH_take (i := 13) (oi := { dst := some 52, op := Op.load 45 (Operand.tmp 2), type := 45, pos := "law.go:70", after := #[{ on := 10, ground := Ground.guard }], guard := some (10, false) }) (v := undef) rfl (by kernel_rfl) (by kernel_rfl) (by kernel_rfl) (fun _ _ _ h => h) (Or.inr ⟨by kernel_rfl, rfl⟩) hst ?_
  simp only [Act.put, List.setIfInBounds_toArray, List.set_cons_zero, List.set_cons_succ]
  refine wpAnyH_take (i := 14) (oi := { dst := some 53, op := Op.call { callee := Callee.value (Operand.func 19), args := #[Operand.tmp 52], argTypes := #[45] }, type := 46, pos := "law.go:70", after := #[{ on := 13, ground := Ground.data }, { on := 12, ground := Ground.chain }, { on := 10, ground := Ground.guard }], guard := some (10, false) }) (v := undef) rfl (by kernel_rfl) (by kernel_rfl) (by kernel_rfl) (fun _ _ _ h => h) (Or.inr ⟨by kernel_rfl, rfl⟩) hst ?_
  simp only [Act.put, List.setIfInBounds_toArray, List.set_cons_zero, List.set_cons_succ]
  refine wpAnyH_take (i := 15) (oi := { dst := some 54, op := Op.call { callee := Callee.value (Operand.func 27), args := #[Operand.tmp 51, Operand.tmp 53], argTypes := #[46, 46] }, type := 4, pos := "law.go:70", after := #[{ on := 12, ground := Ground.data }, { on := 14, ground := Ground.data }, { on := 14, ground := Ground.chain }, { on := 10, ground := Ground.guard }], guard := some (10, false) }) (v := undef) rfl (by kernel_rfl) (by kernel_rfl) (by kernel_rfl) (fun _ _ _ h => h) (Or.inr ⟨by kernel_rfl, rfl⟩) hst ?_
  simp only [Act.put, List.setIfInBounds_toArray, List.set_cons_zero, List.set_cons_succ]
  refine wpAnyH_take (i := 16) (oi := { dst := some 55, op := Op.unOp UnOp.not 4 (Operand.tmp 54), type := 4, pos := "law.go:70", after := #[{ on := 15, ground := Ground.data }, { on := 10, ground := Ground.guard }], guard := some (10, false) }) (v := undef) rfl (by kernel_rfl) (by kernel_rfl) (by kernel_rfl) (fun _ _ _ h => h) (Or.inr ⟨by kernel_rfl, rfl⟩) hst ?_
  simp only [Act.put, List.setIfInBounds_toArray, List.set_cons_zero, List.set_cons_succ]
  refine wpAnyH_take (i := 17) (oi := { dst := some 56, op := Op.pick (Operand.tmp 49) (Operand.const (Value.bool true)) (Operand.tmp 55), type := 4, pos := "law.go:70", after := #[{ on := 10, ground := Ground.data }, { on := 16, ground := Ground.data }, { on := 2, ground := Ground.guard }], guard := some (2, true) }) (v := undef) rfl (by kernel_rfl) (by kernel_rfl) (by kernel_rfl) (fun _ _ _ h => h) (Or.inr ⟨by kernel_rfl, rfl⟩) hst ?_
  simp only [Act.put, List.setIfInBounds_toArray, List.set_cons_zero, List.set_cons_succ]
  refine wpAnyH_take (i := 18) (oi := { dst := some 57, op := Op.pick (Operand.tmp 41) (Operand.tmp 56) (Operand.const (Value.bool false)), type := 4, pos := "law.go:70", after := #[{ on := 2, ground := Ground.data }, { on := 17, ground := Ground.data }], guard := none }) (v := .bool false) rfl (by kernel_rfl) (by kernel_rfl) (by kernel_rfl) (fun _ _ _ h => h) (Or.inl ⟨by rfl, fun w' _ => by rfl⟩) hst ?_
  simp only [Act.put, List.setIfInBounds_toArray, List.set_cons_zero, List.set_cons_succ]
  refine wpAnyH_done (by kernel_rfl) ?_ _
  have HZ := Lib.hid hst
  have HB6 := Lib.hid (HB5.out.trans (HZ.out.below.mono HB5.out.size))
  have HR6 := Lib.hid (HR5.out.below HZ.out.below)
  clear HZ HS HB5 HR5 HA5 HBd5
  go_wp2_with fail
  with_reducible refine (KB.out _ HR6.out).mono ?_
  rintro e w6 ⟨A9, c9, B9, d9, rfl, hA, hB, hb⟩
  have HB7 := Lib.hid (HB6.out.trans (hb.mono HB6.out.size))
  clear hA hB hb KB HB6
  have hal := Lib.hid (heap_alloc_new w6 (.cells z46 45))
  have hn := new_below w6 45 #[.int .i64 0, .int .u32 0, .int .u32 0, .int .i64 0, .int .i64 0, .int .i64 0, .slice none 0 0, .int .u64 0, .slice none 0 0] (pkc Q A9 c9 B9 d9)
  obtain ⟨w7, hw7⟩ : ∃ x, (w6.alloc (.cells #[.int .i64 0, .int .u32 0, .int .u32 0, .int .i64 0, .int .i64 0, .int .i64 0, .slice none 0 0, .int .u64 0, .slice none 0 0] 45)).setRow w6.heap.size (pkc Q A9 c9 B9 d9) = x := ⟨_, rfl⟩
  have H7 : Hid (w7.heap[w6.heap.size]? = some (.cells (pkc Q A9 c9 B9 d9) 45 (0, 0))) := hw7 ▸ new_row w6 45 #[.int .i64 0, .int .u32 0, .int .u32 0, .int .i64 0, .int .i64 0, .int .i64 0, .slice none 0 0, .int .u64 0, .slice none 0 0] (pkc Q A9 c9 B9 d9)
  rw [hw7] at hn
  have HB8 := Lib.hid (HB7.out.trans (hn.mono HB7.out.size))
  have HW7 := Lib.hid hw7
  clear hn hw7 HB7
  go_upto_region 11 with (refine store45 rfl _ _ rfl w6.heap.size Q A9 c9 B9 d9 rfl rfl hal.out ?_)
  rw [HW7.out]
  clear HW7 hal
  have q0 : w7.cell? ⟨w6.heap.size, 0, none⟩ = some (.int .i64 0) := (blk_cell H7.out 0).trans (by rw [← HK.out]; rfl)
  rcases HN.out with rfl | rfl | rfl
  · go_wp2_with fail
    go_ret
    exact ⟨rfl, HB8.out⟩
  · go_wp2_with fail
    go_ret
    exact ⟨rfl, HB8.out⟩
  · go_wp2_with fail
    go_ret
    exact ⟨rfl, HB8.out⟩
set_option maxHeartbeats 8000000 in
set_option maxRecDepth 100000 in
theorem back_ny (w : World) (P : Pk) (hP : P.ok) {A B : Option Addr} {c d : Nat} (hA : Rd w A c P.mac) (hB : Rd w B d P.body) (hmb : mayB P = false) (h1 : P.body.length ≤ 3000)
    {A2 : Option Addr} {c2 : Nat} {l2 : List Int} (h2 : Rd w A2 c2 l2) (h3 : l2.length ≤ 3000) (hg : good l2 = true) :
    Calls Try.prog 9 #[.agg (pkc P A c B d), .slice A2 l2.length c2] w fun e w' => e = .returned (.bool true) ∧ Below w.heap.size w w' := by
  have HA := Lib.hid hA
  have HBd := Lib.hid hB
  have HR := Lib.hid h2
  have i0 : (P.body.length : Int) ≤ 3000 := by omega
  have i1 : (l2.length : Int) ≤ 3000 := by omega
  have KP : Hid (∀ w', Rd w' A c P.mac → Rd w' B d P.body → Calls Try.prog 20 #[.agg (pkc P A c B d)] w' fun e w2 => ∃ D f, e = .returned (.tuple #[.slice D 0 f, .int .i64 1]) ∧ Rd w2 D f [] ∧ Below w'.heap.size w' w2) := fun w' ha hb => bput_no P hP w' ha hb hmb
  obtain ⟨Q0, hQ0⟩ : ∃ Q, getP [] = Q := ⟨_, rfl⟩
  obtain ⟨n0, hn0⟩ : ∃ n, errn [] = n := ⟨_, rfl⟩
  have KG : Hid (∀ w' D f, Rd w' D f [] → Calls Try.prog 25 #[.slice D 0 f] w' fun e w2 => ∃ A' c' B' d', e = .returned (.tuple #[.agg (pkc Q0 A' c' B' d'), .int .i64 n0]) ∧ Below w'.heap.size w' w2) := fun w' D f h => by
    have := pget D f [] w' h (by simp)
    rw [hQ0, hn0] at this
    refine this.mono ?_
    rintro e w2 ⟨A', c', B', d', rfl, hA', hB', hb'⟩
    exact ⟨A', c', B', d', rfl, hb'⟩
  clear hQ0 hn0
  obtain ⟨n, hn⟩ : ∃ n, errn l2 = n := ⟨_, rfl⟩
  obtain ⟨Q, hQ⟩ : ∃ Q, getP l2 = Q := ⟨_, rfl⟩
  have KB : Hid (∀ w', Rd w' A2 c2 l2 → Calls Try.prog 25 #[.slice A2 l2.length c2] w' fun e w2 => ∃ A' c' B' d', e = .returned (.tuple #[.agg (pkc Q A' c' B' d'), .int .i64 n]) ∧ OwnA w2 w'.heap.size (.slice A' Q.mac.length c') Q.mac ∧ OwnA w2 w'.heap.size (.slice B' Q.body.length d') Q.body ∧ Below w'.heap.size w' w2) := fun w' h => by rw [← hQ, ← hn]; exact pget A2 c2 l2 w' h (by omega)
  have gl := good_len hg
  have hQ2 : Q = parse l2 := by rw [← hQ]; unfold getP; rw [if_pos hg]
  have hn0 : n = 0 := by
    rw [← hn]; unfold errn
    rw [if_neg (by omega), if_neg (by omega), if_pos hg]
  subst hn0
  have HQok : Hid (Q.ok) := by rw [hQ2]; exact parse_ok l2 h2.b (by omega)
  have HQm : Hid (mayB Q = true) := by rw [hQ2]; exact gl.2.2
  have HQp : Hid (putL Q = l2) := by rw [hQ2]; exact put_back l2 h2.b hg
  have iq := (may_size HQm.out).2
  have IQ := Lib.hid iq
  clear iq
  have HQb : Hid (Bytes Q.mac ∧ Bytes Q.body) := bytes_of h2.b hQ
  have KQ : Hid (∀ w' A c B d, Rd w' A c Q.mac → Rd w' B d Q.body → Calls Try.prog 20 #[.agg (pkc Q A c B d)] w' fun e w2 => ∃ D f, e = .returned (.tuple #[.slice D l2.length f, .int .i64 0]) ∧ Rd w2 D f l2 ∧ Below w'.heap.size w' w2) := fun w' A c B d ha hb => by
    have := bput_yes Q HQok.out w' ha hb HQm.out
    rwa [HQp.out] at this
  clear gl hQ2 HQok HQm HQp hn hQ
  clear hA hB h2 hmb hg h1 h3
  go_enter Try.func9, Try.ntmps9
  go_wp2_with fail
  with_reducible refine (awake_any _).mono ?_
  rintro e w1 ⟨rfl, hb⟩
  have H1 : Hid (w1.heap[w.heap.size]? = some (.cells (pkc P A c B d) 45 (0, 0))) := (hb.block _ (by simp)).trans (heap_alloc_new w _)
  have HB1 : Hid (Below w.heap.size w w1) := Below.trans ((Below.refl _ _).alloc (Nat.le_refl _) _) (hb.mono (by simp))
  have q8 : w1.cell? ⟨w.heap.size, 8, none⟩ = some (.slice B P.body.length d) := (blk_cell H1.out 8).trans rfl
  clear hb
  go_wp2_with (refine load45 rfl _ rfl w.heap.size P A c B d rfl H1.out ?_)
  with_reducible refine (KP.out _ (HA.out.below HB1.out) (HBd.out.below HB1.out)).mono ?_
  rintro e w2 ⟨D, f, rfl, hD, hb⟩
  have H2 : Hid (w2.heap[w.heap.size]? = some (.cells (pkc P A c B d) 45 (0, 0))) := (hb.block _ (blk_lt H1.out)).trans H1.out
  have HB2 := Lib.hid (HB1.out.trans (hb.mono HB1.out.size))
  have HD := Lib.hid hD
  clear hb hD q8 H1 HB1
  go_wp2_with fail
  with_reducible refine (KG.out _ _ _ HD.out).mono ?_
  rintro e w3 ⟨A', c', B', d', rfl, hb⟩
  have H3 : Hid (w3.heap[w.heap.size]? = some (.cells (pkc P A c B d) 45 (0, 0))) := (hb.block _ (blk_lt H2.out)).trans H2.out
  have HB3 := Lib.hid (HB2.out.trans (hb.mono HB2.out.size))
  clear hb H2 HB2 KP KG HD
  have hal := Lib.hid (heap_alloc_new w3 (.cells z46 45))
  have hn := new_below w3 45 #[.int .i64 0, .int .u32 0, .int .u32 0, .int .i64 0, .int .i64 0, .int .i64 0, .slice none 0 0, .int .u64 0, .slice none 0 0] (pkc Q0 A' c' B' d')
  obtain ⟨w5, hw5⟩ : ∃ x, (w3.alloc (.cells #[.int .i64 0, .int .u32 0, .int .u32 0, .int .i64 0, .int .i64 0, .int .i64 0, .slice none 0 0, .int .u64 0, .slice none 0 0] 45)).setRow w3.heap.size (pkc Q0 A' c' B' d') = x := ⟨_, rfl⟩
  have H6 : Hid (w5.heap[w3.heap.size]? = some (.cells (pkc Q0 A' c' B' d') 45 (0, 0))) := hw5 ▸ new_row w3 45 #[.int .i64 0, .int .u32 0, .int .u32 0, .int .i64 0, .int .i64 0, .int .i64 0, .slice none 0 0, .int .u64 0, .slice none 0 0] (pkc Q0 A' c' B' d')
  rw [hw5] at hn
  have H5 : Hid (w5.heap[w.heap.size]? = some (.cells (pkc P A c B d) 45 (0, 0))) := (hn.block _ (blk_lt H3.out)).trans H3.out
  have HB5 := Lib.hid (HB3.out.trans (hn.mono HB3.out.size))
  have HA5 := Lib.hid (HA.out.below HB5.out)
  have HBd5 := Lib.hid (HBd.out.below HB5.out)
  have HR5 := Lib.hid (HR.out.below HB5.out)
  have HW5 := Lib.hid hw5
  clear hn hw5 H3 HB3 HA HBd HR
  go_upto_region 8 with (refine store45 rfl _ _ rfl w3.heap.size Q0 A' c' B' d' rfl rfl hal.out ?_)
  rw [HW5.out]
  clear HW5 hal
  have HS : Hid (T2 w5 w3.heap.size w.heap.size (pkc Q0 A' c' B' d') (pkc P A c B d) w5) := ⟨Below.refl _ _, H6.out, H5.out⟩
  clear H6 H5
  refine wp_region_held_drew (S := T2 w5 w3.heap.size w.heap.size (pkc Q0 A' c' B' d') (pkc P A c B d)) (by kernel_rfl) HS.out.drew (fun hst => ?_)
  refine wpAnyH_take (i := 0) (oi := { dst := some 39, op := Op.move (Operand.tmp 7), type := 28, pos := "law.go:70", after := #[], guard := none }) (v := .int .i64 1) rfl (by kernel_rfl) (by kernel_rfl) (by kernel_rfl) (fun _ _ _ h => h) (Or.inl ⟨by rfl, fun w' _ => by rfl⟩) hst ?_
  simp only [Act.put, List.setIfInBounds_toArray, List.set_cons_zero, List.set_cons_succ]
  refine wpAnyH_take (i := 1) (oi := { dst := some 40, op := Op.binOp BinOp.eql 28 (Operand.tmp 39) (Operand.const (Value.int IntKind.i64 0)) 28, type := 4, pos := "law.go:70", after := #[{ on := 0, ground := Ground.data }], guard := none }) (v := .bool false) rfl (by kernel_rfl) (by kernel_rfl) (by kernel_rfl) (fun _ _ _ h => h) (Or.inl ⟨by rfl, fun w' _ => eq28n rfl rfl (by omega)⟩) hst ?_
  simp only [Act.put, List.setIfInBounds_toArray, List.set_cons_zero, List.set_cons_succ]
  refine wpAnyH_take (i := 2) (oi := { dst := some 41, op := Op.move (Operand.tmp 40), type := 4, pos := "law.go:70", after := #[{ on := 1, ground := Ground.data }], guard := none }) (v := .bool false) rfl (by kernel_rfl) (by kernel_rfl) (by kernel_rfl) (fun _ _ _ h => h) (Or.inl ⟨by rfl, fun w' _ => by rfl⟩) hst ?_
  simp only [Act.put, List.setIfInBounds_toArray, List.set_cons_zero, List.set_cons_succ]
  refine wpAnyH_take (i := 3) (oi := { dst := some 42, op := Op.move (Operand.tmp 9), type := 28, pos := "law.go:70", after := #[{ on := 2, ground := Ground.guard }], guard := some (2, true) }) (v := undef) rfl (by kernel_rfl) (by kernel_rfl) (by kernel_rfl) (fun _ _ _ h => h) (Or.inr ⟨by kernel_rfl, rfl⟩) hst ?_
  simp only [Act.put, List.setIfInBounds_toArray, List.set_cons_zero, List.set_cons_succ]
  refine wpAnyH_take (i := 4) (oi := { dst := some 43, op := Op.binOp BinOp.neq 28 (Operand.tmp 42) (Operand.const (Value.int IntKind.i64 0)) 28, type := 4, pos := "law.go:70", after := #[{ on := 3, ground := Ground.data }, { on := 2, ground := Ground.guard }], guard := some (2, true) }) (v := undef) rfl (by kernel_rfl) (by kernel_rfl) (by kernel_rfl) (fun _ _ _ h => h) (Or.inr ⟨by kernel_rfl, rfl⟩) hst ?_
  simp only [Act.put, List.setIfInBounds_toArray, List.set_cons_zero, List.set_cons_succ]
  refine wpAnyH_take (i := 5) (oi := { dst := some 44, op := Op.move (Operand.tmp 43), type := 4, pos := "law.go:70", after := #[{ on := 4, ground := Ground.data }, { on := 2, ground := Ground.chain }, { on := 2, ground := Ground.guard }], guard := some (2, true) }) (v := undef) rfl (by kernel_rfl) (by kernel_rfl) (by kernel_rfl) (fun _ _ _ h => h) (Or.inr ⟨by kernel_rfl, rfl⟩) hst ?_
  simp only [Act.put, List.setIfInBounds_toArray, List.set_cons_zero, List.set_cons_succ]
  refine wpAnyH_take (i := 6) (oi := { dst := some 45, op := Op.move (Operand.tmp 6), type := 37, pos := "law.go:70", after := #[{ on := 5, ground := Ground.guard }], guard := some (5, false) }) (v := undef) rfl (by kernel_rfl) (by kernel_rfl) (by kernel_rfl) (fun _ _ _ h => h) (Or.inr ⟨by kernel_rfl, rfl⟩) hst ?_
  simp only [Act.put, List.setIfInBounds_toArray, List.set_cons_zero, List.set_cons_succ]
  refine wpAnyH_take (i := 7) (oi := { dst := some 46, op := Op.call { callee := Callee.builtin Builtin.len, args := #[Operand.tmp 45], argTypes := #[37] }, type := 3, pos := "law.go:70", after := #[{ on := 6, ground := Ground.data }, { on := 5, ground := Ground.guard }], guard := some (5, false) }) (v := undef) rfl (by kernel_rfl) (by kernel_rfl) (by kernel_rfl) (fun _ _ _ h => h) (Or.inr ⟨by kernel_rfl, rfl⟩) hst ?_
  simp only [Act.put, List.setIfInBounds_toArray, List.set_cons_zero, List.set_cons_succ]
  refine wpAnyH_take (i := 8) (oi := { dst := some 47, op := Op.binOp BinOp.gtr 3 (Operand.tmp 46) (Operand.const (Value.int IntKind.i64 1200)) 3, type := 4, pos := "law.go:70", after := #[{ on := 7, ground := Ground.data }, { on := 5, ground := Ground.guard }], guard := some (5, false) }) (v := undef) rfl (by kernel_rfl) (by kernel_rfl) (by kernel_rfl) (fun _ _ _ h => h) (Or.inr ⟨by kernel_rfl, rfl⟩) hst ?_
  simp only [Act.put, List.setIfInBounds_toArray, List.set_cons_zero, List.set_cons_succ]
  refine wpAnyH_take (i := 9) (oi := { dst := some 48, op := Op.pick (Operand.tmp 44) (Operand.const (Value.bool true)) (Operand.tmp 47), type := 4, pos := "law.go:70", after := #[{ on := 5, ground := Ground.data }, { on := 8, ground := Ground.data }, { on := 2, ground := Ground.guard }], guard := some (2, true) }) (v := undef) rfl (by kernel_rfl) (by kernel_rfl) (by kernel_rfl) (fun _ _ _ h => h) (Or.inr ⟨by kernel_rfl, rfl⟩) hst ?_
  simp only [Act.put, List.setIfInBounds_toArray, List.set_cons_zero, List.set_cons_succ]
  refine wpAnyH_take (i := 10) (oi := { dst := some 49, op := Op.move (Operand.tmp 48), type := 4, pos := "law.go:70", after := #[{ on := 9, ground := Ground.data }, { on := 5, ground := Ground.chain }, { on := 2, ground := Ground.guard }], guard := some (2, true) }) (v := undef) rfl (by kernel_rfl) (by kernel_rfl) (by kernel_rfl) (fun _ _ _ h => h) (Or.inr ⟨by kernel_rfl, rfl⟩) hst ?_
  simp only [Act.put, List.setIfInBounds_toArray, List.set_cons_zero, List.set_cons_succ]
  refine wpAnyH_take (i := 11) (oi := { dst := some 50, op := Op.load 45 (Operand.tmp 8), type := 45, pos := "law.go:70", after := #[{ on := 10, ground := Ground.guard }], guard := some (10, false) }) (v := undef) rfl (by kernel_rfl) (by kernel_rfl) (by kernel_rfl) (fun _ _ _ h => h) (Or.inr ⟨by kernel_rfl, rfl⟩) hst ?_
  simp only [Act.put, List.setIfInBounds_toArray, List.set_cons_zero, List.set_cons_succ]
  refine wpAnyH_take (i := 12) (oi := { dst := some 51, op := Op.call { callee := Callee.value (Operand.func 19), args := #[Operand.tmp 50], argTypes := #[45] }, type := 46, pos := "law.go:70", after := #[{ on := 11, ground := Ground.data }, { on := 10, ground := Ground.chain }, { on := 10, ground := Ground.guard }], guard := some (10, false) }) (v := undef) rfl (by kernel_rfl) (by kernel_rfl) (by kernel_rfl) (fun _ _ _ h => h) (Or.inr ⟨by kernel_rfl, rfl⟩) hst ?_
  simp only [Act.put, List.setIfInBounds_toArray, List.set_cons_zero, List.set_cons_succ]
  refine wpAnyH_take (i := 13) (oi := { dst := some 52, op := Op.load 45 (Operand.tmp 2), type := 45, pos := "law.go:70", after := #[{ on := 10, ground := Ground.guard }], guard := some (10, false) }) (v := undef) rfl (by kernel_rfl) (by kernel_rfl) (by kernel_rfl) (fun _ _ _ h => h) (Or.inr ⟨by kernel_rfl, rfl⟩) hst ?_
  simp only [Act.put, List.setIfInBounds_toArray, List.set_cons_zero, List.set_cons_succ]
  refine wpAnyH_take (i := 14) (oi := { dst := some 53, op := Op.call { callee := Callee.value (Operand.func 19), args := #[Operand.tmp 52], argTypes := #[45] }, type := 46, pos := "law.go:70", after := #[{ on := 13, ground := Ground.data }, { on := 12, ground := Ground.chain }, { on := 10, ground := Ground.guard }], guard := some (10, false) }) (v := undef) rfl (by kernel_rfl) (by kernel_rfl) (by kernel_rfl) (fun _ _ _ h => h) (Or.inr ⟨by kernel_rfl, rfl⟩) hst ?_
  simp only [Act.put, List.setIfInBounds_toArray, List.set_cons_zero, List.set_cons_succ]
  refine wpAnyH_take (i := 15) (oi := { dst := some 54, op := Op.call { callee := Callee.value (Operand.func 27), args := #[Operand.tmp 51, Operand.tmp 53], argTypes := #[46, 46] }, type := 4, pos := "law.go:70", after := #[{ on := 12, ground := Ground.data }, { on := 14, ground := Ground.data }, { on := 14, ground := Ground.chain }, { on := 10, ground := Ground.guard }], guard := some (10, false) }) (v := undef) rfl (by kernel_rfl) (by kernel_rfl) (by kernel_rfl) (fun _ _ _ h => h) (Or.inr ⟨by kernel_rfl, rfl⟩) hst ?_
  simp only [Act.put, List.setIfInBounds_toArray, List.set_cons_zero, List.set_cons_succ]
  refine wpAnyH_take (i := 16) (oi := { dst := some 55, op := Op.unOp UnOp.not 4 (Operand.tmp 54), type := 4, pos := "law.go:70", after := #[{ on := 15, ground := Ground.data }, { on := 10, ground := Ground.guard }], guard := some (10, false) }) (v := undef) rfl (by kernel_rfl) (by kernel_rfl) (by kernel_rfl) (fun _ _ _ h => h) (Or.inr ⟨by kernel_rfl, rfl⟩) hst ?_
  simp only [Act.put, List.setIfInBounds_toArray, List.set_cons_zero, List.set_cons_succ]
  refine wpAnyH_take (i := 17) (oi := { dst := some 56, op := Op.pick (Operand.tmp 49) (Operand.const (Value.bool true)) (Operand.tmp 55), type := 4, pos := "law.go:70", after := #[{ on := 10, ground := Ground.data }, { on := 16, ground := Ground.data }, { on := 2, ground := Ground.guard }], guard := some (2, true) }) (v := undef) rfl (by kernel_rfl) (by kernel_rfl) (by kernel_rfl) (fun _ _ _ h => h) (Or.inr ⟨by kernel_rfl, rfl⟩) hst ?_
  simp only [Act.put, List.setIfInBounds_toArray, List.set_cons_zero, List.set_cons_succ]
  refine wpAnyH_take (i := 18) (oi := { dst := some 57, op := Op.pick (Operand.tmp 41) (Operand.tmp 56) (Operand.const (Value.bool false)), type := 4, pos := "law.go:70", after := #[{ on := 2, ground := Ground.data }, { on := 17, ground := Ground.data }], guard := none }) (v := .bool false) rfl (by kernel_rfl) (by kernel_rfl) (by kernel_rfl) (fun _ _ _ h => h) (Or.inl ⟨by rfl, fun w' _ => by rfl⟩) hst ?_
  simp only [Act.put, List.setIfInBounds_toArray, List.set_cons_zero, List.set_cons_succ]
  refine wpAnyH_done (by kernel_rfl) ?_ _
  have HZ := Lib.hid hst
  have HB6 := Lib.hid (HB5.out.trans (HZ.out.below.mono HB5.out.size))
  have HR6 := Lib.hid (HR5.out.below HZ.out.below)
  clear HZ HS HB5 HR5 HA5 HBd5
  go_wp2_with fail
  with_reducible refine (KB.out _ HR6.out).mono ?_
  rintro e w6 ⟨A9, c9, B9, d9, rfl, hA, hB, hb⟩
  have HH : ∃ W0 : World, Rd W0 A2 c2 l2 ∧ Below w.heap.size w W0 ∧ OwnA w6 W0.heap.size (.slice A9 Q.mac.length c9) Q.mac ∧ OwnA w6 W0.heap.size (.slice B9 Q.body.length d9) Q.body ∧ Below W0.heap.size W0 w6 := ⟨_, HR6.out, HB6.out, hA, hB, hb⟩
  clear hA hB hb HR6 HB6 KB
  obtain ⟨W0, hR0, hBW0, hA, hB, hb⟩ := HH
  have HR0 := Lib.hid hR0
  have HBW := Lib.hid hBW0
  have hal := Lib.hid (heap_alloc_new w6 (.cells z46 45))
  have hn := new_below w6 45 #[.int .i64 0, .int .u32 0, .int .u32 0, .int .i64 0, .int .i64 0, .int .i64 0, .slice none 0 0, .int .u64 0, .slice none 0 0] (pkc Q A9 c9 B9 d9)
  obtain ⟨w7, hw7⟩ : ∃ x, (w6.alloc (.cells #[.int .i64 0, .int .u32 0, .int .u32 0, .int .i64 0, .int .i64 0, .int .i64 0, .slice none 0 0, .int .u64 0, .slice none 0 0] 45)).setRow w6.heap.size (pkc Q A9 c9 B9 d9) = x := ⟨_, rfl⟩
  have H7 : Hid (w7.heap[w6.heap.size]? = some (.cells (pkc Q A9 c9 B9 d9) 45 (0, 0))) := hw7 ▸ new_row w6 45 #[.int .i64 0, .int .u32 0, .int .u32 0, .int .i64 0, .int .i64 0, .int .i64 0, .slice none 0 0, .int .u64 0, .slice none 0 0] (pkc Q A9 c9 B9 d9)
  rw [hw7] at hn
  have HB7 := Lib.hid (hb.trans (hn.mono hb.size))
  have HW7 := Lib.hid hw7
  have HA7 := Lib.hid (hA.below hn)
  have HBo7 := Lib.hid (hB.below hn)
  have hge6 : W0.heap.size ≤ w6.heap.size := hb.size
  have HAr := Lib.hid (HA7.out.rd HQb.out.1).2
  have HBr := Lib.hid (HBo7.out.rd HQb.out.2).2
  obtain ⟨gb, cs, hgb0⟩ : ∃ (gb : Nat) (cs : Array Value), 0 < Q.body.length → B9 = some ⟨gb, 0, none⟩ ∧ W0.heap.size ≤ gb ∧ gb < w6.heap.size ∧ w7.heap[gb]? = some (.cells cs 5 (0, 0)) := by
    by_cases h0 : 0 < Q.body.length
    · obtain ⟨gb, cap, ev, hge, hgl, hgk⟩ := Kd.R_form hB h0
      cases ev
      obtain ⟨cs, hcs⟩ := hgk
      exact ⟨gb, cs, fun _ => ⟨rfl, hge, hgl, (hn.block _ hgl).trans hcs⟩⟩
    · exact ⟨0, #[], fun h => absurd h h0⟩
  clear hn hw7 hA hB hb hR0 hBW0 HA7
  go_upto_region 11 with (refine store45 rfl _ _ rfl w6.heap.size Q A9 c9 B9 d9 rfl rfl hal.out ?_)
  rw [HW7.out]
  clear HW7 hal
  obtain ⟨g6, hg6⟩ : ∃ x, w6.heap.size = x := ⟨_, rfl⟩
  rw [hg6] at H7 hge6 hgb0
  simp only [hg6]
  clear hg6
  go_wp2_with (refine load45 rfl _ rfl g6 Q A9 c9 B9 d9 rfl H7.out ?_)
  with_reducible refine (KQ.out _ _ _ _ _ HAr.out HBr.out).mono ?_
  rintro e w8 ⟨D9, f9, rfl, hD, hb⟩
  have H8 : Hid (w8.heap[g6]? = some (.cells (pkc Q A9 c9 B9 d9) 45 (0, 0))) := (hb.block _ (blk_lt H7.out)).trans H7.out
  have HB8 := Lib.hid (HB7.out.trans (hb.mono HB7.out.size))
  have HBo8 := Lib.hid (HBo7.out.below hb)
  have HR8 := Lib.hid (HR0.out.below HB8.out)
  have hgb : ∀ h0 : 0 < Q.body.length, B9 = some ⟨gb, 0, none⟩ ∧ W0.heap.size ≤ gb ∧ gb ≠ g6 ∧ w8.heap[gb]? = some (.cells cs 5 (0, 0)) ∧ ∀ k, k < Q.body.length → ∃ x, cs[k]? = some (.int .u8 x) := fun h0 => by
    obtain ⟨e1, h4, h5, h7⟩ := hgb0 h0
    have h8 := (hb.block _ (blk_lt h7)).trans h7
    refine ⟨e1, h4, by omega, h8, fun j hj => ?_⟩
    obtain ⟨ad, e2, _, h6⟩ := (HBo8.out.rd HQb.out.2).2.at h0
    rw [e1] at e2
    cases e2
    have := h6 j hj
    rw [addr0, blk_cell h8 j] at this
    exact ⟨_, this⟩
  have HGB := Lib.hid hgb
  have q1 := conv_C (c := f9) hD.r
  have q2 := conv_C (c := c2) HR8.out.r
  clear hgb hgb0 hD hb HBo7 HBo8 HAr HBr KQ H7 HB7 HQb
  go_wp2_with fail
  clear q1 q2 HR8
  go_loopw [16] (fun i wr => ∃ j : Nat, j ≤ Q.body.length ∧ i = .int .i64 j ∧ Below W0.heap.size W0 wr ∧ wr.heap[g6]? = some (.cells (pkc Q A9 c9 B9 d9) 45 (0, 0)) ∧ (0 < Q.body.length → ∃ cs, wr.heap[gb]? = some (.cells cs 5 (0, 0)) ∧ ∀ k, k < Q.body.length → ∃ x, cs[k]? = some (.int .u8 x))) (fun i _ => Q.body.length - (intOf i).toNat)
  case atStart => exact ⟨0, by omega, rfl, HB8.out, H8.out, fun h0 => ⟨cs, (HGB.out h0).2.2.2⟩⟩
  case round =>
    have hgb : 0 < Q.body.length → B9 = some ⟨gb, 0, none⟩ ∧ W0.heap.size ≤ gb ∧ gb ≠ g6 := fun h => ⟨(HGB.out h).1, (HGB.out h).2.1, (HGB.out h).2.2.1⟩
    clear HB8 H8 HGB
    obtain ⟨j, hj, rfl, hB, h8, hc⟩ := hrel
    have HB := Lib.hid hB
    have H8 := Lib.hid h8
    have HC := Lib.hid hc
    have q8 : wr.cell? ⟨g6, 8, none⟩ = some (.slice B9 Q.body.length d9) := (blk_cell h8 8).trans rfl
    clear hB h8 hc
    by_cases hlt : (j : Int) < (Q.body.length : Int)
    · obtain ⟨e1, hge, hne⟩ := hgb (by omega)
      obtain ⟨cs, hcs, hck⟩ := HC.out (by omega)
      obtain ⟨x9, hx9'⟩ := hck j (by omega)
      have hx9 : wr.cell? ⟨gb, j, none⟩ = some (.int .u8 x9) := (blk_cell hcs j).trans hx9'
      have hfz : wr.frozen? ⟨gb, j, none⟩ = false := by unfold World.frozen?; rw [hcs]; simp
      have HCS := Lib.hid hcs
      have HCK := Lib.hid hck
      clear hcs hck hx9'
      subst e1
      have hj0 : (0 : Int) ≤ (j : Int) := by omega
      have iq := IQ.out
      have hj9 : (j : Int) ≤ 1187 := by omega
      go_upto_region 19 with fail
      refine wp_region_held_drew (S := fun w' => w'.cell? ⟨g6, 8, none⟩ = some (.slice (some ⟨gb, 0, none⟩) Q.body.length d9)) (by kernel_rfl) (by first | exact q8 | go_keep) (fun hst => ?_)
      refine wpAnyH_take (i := 0) (oi := { dst := some 91, op := Op.fieldAddr 45 (Operand.tmp 10) 8, type := 0, pos := "law.go:81", after := #[], guard := none }) (v := .pointer (some ⟨g6, 8, none⟩)) rfl (by kernel_rfl) (by kernel_rfl) (by kernel_rfl) (fun _ _ _ h => h) (Or.inl ⟨by rfl, fun w' _ => by rfl⟩) hst ?_
      simp only [Act.put, List.setIfInBounds_toArray, List.set_cons_zero, List.set_cons_succ]
      refine wpAnyH_take (i := 1) (oi := { dst := some 92, op := Op.load 37 (Operand.tmp 91), type := 37, pos := "law.go:81", after := #[{ on := 0, ground := Ground.data }], guard := none }) (v := .slice (some ⟨gb, 0, none⟩) Q.body.length d9) rfl (by kernel_rfl) (by kernel_rfl) (by kernel_rfl) (fun _ _ _ h => h) (Or.inl ⟨by rfl, fun w' hS => by unfold execOp; simp [go_sem, hS, Instr.loadAt, Instr.sureAddr]⟩) hst ?_
      simp only [Act.put, List.setIfInBounds_toArray, List.set_cons_zero, List.set_cons_succ]
      refine wpAnyH_take (i := 2) (oi := { dst := some 93, op := Op.move (Operand.tmp 16), type := 3, pos := "law.go:81", after := #[], guard := none }) (v := .int .i64 j) rfl (by kernel_rfl) (by kernel_rfl) (by kernel_rfl) (fun _ _ _ h => h) (Or.inl ⟨by rfl, fun w' _ => by rfl⟩) hst ?_
      simp only [Act.put, List.setIfInBounds_toArray, List.set_cons_zero, List.set_cons_succ]
      refine wpAnyH_take (i := 3) (oi := { dst := some 94, op := Op.fieldAddr 45 (Operand.tmp 10) 8, type := 0, pos := "law.go:81", after := #[], guard := none }) (v := .pointer (some ⟨g6, 8, none⟩)) rfl (by kernel_rfl) (by kernel_rfl) (by kernel_rfl) (fun _ _ _ h => h) (Or.inl ⟨by rfl, fun w' _ => by rfl⟩) hst ?_
      simp only [Act.put, List.setIfInBounds_toArray, List.set_cons_zero, List.set_cons_succ]
      refine wpAnyH_take (i := 4) (oi := { dst := some 95, op := Op.load 37 (Operand.tmp 94), type := 37, pos := "law.go:81", after := #[{ on := 3, ground := Ground.data }], guard := none }) (v := .slice (some ⟨gb, 0, none⟩) Q.body.length d9) rfl (by kernel_rfl) (by kernel_rfl) (by kernel_rfl) (fun _ _ _ h => h) (Or.inl ⟨by rfl, fun w' hS => by unfold execOp; simp [go_sem, hS, Instr.loadAt, Instr.sureAddr]⟩) hst ?_
      simp only [Act.put, List.setIfInBounds_toArray, List.set_cons_zero, List.set_cons_succ]
      refine wpAnyH_take (i := 5) (oi := { dst := some 96, op := Op.move (Operand.tmp 16), type := 3, pos := "law.go:81", after := #[], guard := none }) (v := .int .i64 j) rfl (by kernel_rfl) (by kernel_rfl) (by kernel_rfl) (fun _ _ _ h => h) (Or.inl ⟨by rfl, fun w' _ => by rfl⟩) hst ?_
      simp only [Act.put, List.setIfInBounds_toArray, List.set_cons_zero, List.set_cons_succ]
      refine wpAnyH_take (i := 6) (oi := { dst := some 97, op := Op.indexAddr 37 (Operand.tmp 95) (Operand.tmp 96), type := 0, pos := "law.go:81", after := #[{ on := 4, ground := Ground.data }, { on := 5, ground := Ground.data }], guard := none }) (v := .pointer (some ⟨gb, j, none⟩)) rfl (by kernel_rfl) (by kernel_rfl) (by kernel_rfl) (fun _ _ _ h => h) (Or.inl ⟨by rfl, fun w' hS => by unfold execOp; simp [go_sem, hlt, hj0]⟩) hst ?_
      simp only [Act.put, List.setIfInBounds_toArray, List.set_cons_zero, List.set_cons_succ]
      refine wpAnyH_ready (rs := [7]) (by kernel_rfl) (by simp) ?_
      refine AllReadyH.cons (o := { dst := some 98, op := Op.load 5 (Operand.tmp 97), type := 5, pos := "law.go:81", after := #[{ on := 6, ground := Ground.data }], guard := none }) rfl (fun K hK => ?_) ?_
      · skip
        go_simp
        refine hK.out _ _ hst (fun hh1 => ?_)
        clear hK K
        refine wpAnyH_take (i := 8) (oi := { dst := some 99, op := Op.binOp BinOp.xor 5 (Operand.tmp 98) (Operand.const (Value.int IntKind.u8 255)) 5, type := 5, pos := "law.go:81", after := #[{ on := 7, ground := Ground.data }], guard := none }) (v := .int .u8 (bits .xor .u8 x9 255)) rfl (by kernel_rfl) (by kernel_rfl) (by kernel_rfl) (fun _ _ _ h => h) (Or.inl ⟨by rfl, fun w' _ => by rfl⟩) hh1 ?_
        simp only [Act.put, List.setIfInBounds_toArray, List.set_cons_zero, List.set_cons_succ]
        refine wpAnyH_take (i := 9) (oi := { dst := some 100, op := Op.indexAddr 37 (Operand.tmp 92) (Operand.tmp 93), type := 0, pos := "law.go:81", after := #[{ on := 1, ground := Ground.data }, { on := 2, ground := Ground.data }, { on := 0, ground := Ground.phase }, { on := 1, ground := Ground.phase }, { on := 2, ground := Ground.phase }, { on := 3, ground := Ground.phase }, { on := 4, ground := Ground.phase }, { on := 5, ground := Ground.phase }, { on := 6, ground := Ground.phase }, { on := 7, ground := Ground.phase }, { on := 8, ground := Ground.phase }], guard := none }) (v := .pointer (some ⟨gb, j, none⟩)) rfl (by kernel_rfl) (by kernel_rfl) (by kernel_rfl) (fun _ _ _ h => h) (Or.inl ⟨by rfl, fun w' hS => by unfold execOp; simp [go_sem, hlt, hj0]⟩) hh1 ?_
        simp only [Act.put, List.setIfInBounds_toArray, List.set_cons_zero, List.set_cons_succ]
        refine wpAnyH_ready (rs := [10]) (by kernel_rfl) (by simp) ?_
        refine AllReadyH.cons (o := { dst := none, op := Op.store 5 (Operand.tmp 100) (Operand.tmp 99), type := 0, pos := "law.go:81", after := #[{ on := 9, ground := Ground.data }, { on := 8, ground := Ground.data }, { on := 0, ground := Ground.phase }, { on := 1, ground := Ground.phase }, { on := 2, ground := Ground.phase }, { on := 3, ground := Ground.phase }, { on := 4, ground := Ground.phase }, { on := 5, ground := Ground.phase }, { on := 6, ground := Ground.phase }, { on := 7, ground := Ground.phase }, { on := 8, ground := Ground.phase }], guard := none }) rfl (fun K hK => ?_) ?_
        · skip
          go_simp
          refine hK.out _ _ (keep1 (show g6 ≠ gb from fun h => hne h.symm) q8) (fun hh2 => ?_)
          clear hK K
          refine wpAnyH_done (by kernel_rfl) ?_ _
          go_wp2_with fail
          go_roundw
          case rel =>
            refine ⟨j + 1, by omega, by go_num, ?_, ?_, fun h0 => ⟨cs.setIfInBounds j (.int .u8 (bits .xor .u8 x9 255)), ?_, fun k hk => ?_⟩⟩
            · exact (HB.out.setCell (show W0.heap.size ≤ gb from hge) _).drew
            · exact (heap_setCell_other wr ⟨gb, j, none⟩ g6 _ (show g6 ≠ gb from fun h => hne h.symm)).trans H8.out
            · exact heap_setCell_same _ _ _ _ _ _ HCS.out
            · by_cases hkj : k = j
              · subst hkj
                obtain ⟨y, hy⟩ := HCK.out k hk
                have hs : k < cs.size := by
                  rcases Nat.lt_or_ge k cs.size with h | h
                  · exact h
                  · rw [Array.getElem?_eq_none h] at hy; cases hy
                exact ⟨_, by rw [Array.getElem?_setIfInBounds_self_of_lt hs]⟩
              · obtain ⟨y, hy⟩ := HCK.out k hk
                exact ⟨y, by rw [Array.getElem?_setIfInBounds_ne (by omega)]; exact hy⟩
          case measure => simp [intOf] <;> omega
        exact AllReadyH.nil
      exact AllReadyH.nil
    · have HRr := Lib.hid (HR0.out.below HB.out)
      have q2 := conv_C (c := c2) HRr.out.r
      go_wp2_with fail
      go_ret
      exact ⟨rfl, HBW.out.trans (HB.out.mono HBW.out.size)⟩
set_option maxHeartbeats 4000000 in
set_option maxRecDepth 100000 in
theorem back_walk (w : World) (P0 : Pk) (A0 : Option Addr) (c0 : Nat) (B0 : Option Addr) (d0 : Nat) (A1 : Option Addr) (c1 : Nat) (l1 : List Int)
    (hP0 : P0.ok) (hA0 : Rd w A0 c0 P0.mac) (hB0 : Rd w B0 d0 P0.body) (hC1 : Kd.C (Kd.int .u8) w A1 l1.length l1) (hc1 : l1.length ≤ c1) (hy1 : l1.length * 1 ≤ 140737488351232) (hw1 : ∀ x ∈ l1, 0 ≤ x ∧ x ≤ 255) :
    Calls Try.prog 9 #[.agg (pkc P0 A0 c0 B0 d0), .slice A1 l1.length c1] w fun e w' => e = .returned (.bool true) ∧ Below w.heap.size w w' := by
  have hR1 : Rd w A1 c1 l1 := ⟨hC1, hc1, hw1⟩
  by_cases h1 : P0.body.length ≤ 3000
  · by_cases h2 : l1.length ≤ 3000
    · cases hmb : mayB P0
      · cases hg : good l1
        · exact back_nn w P0 hP0 hA0 hB0 hmb h1 hR1 h2 hg
        · exact back_ny w P0 hP0 hA0 hB0 hmb h1 hR1 h2 hg
      · cases hg : good l1
        · exact back_yn w P0 hP0 hA0 hB0 hmb h1 hR1 h2 hg
        · exact back_yy w P0 hP0 hA0 hB0 hmb h1 hR1 h2 hg
    · have i0 : (P0.body.length : Int) ≤ 3000 := by omega
      have i1 : (3000 : Int) < (l1.length : Int) := by omega
      clear hC1 hw1 hR1
      go_enter Try.func9, Try.ntmps9
      go_wp2_with fail
      with_reducible refine (awake_any _).mono ?_
      rintro e w1 ⟨rfl, hb⟩
      have H1 : Hid (w1.heap[w.heap.size]? = some (.cells (pkc P0 A0 c0 B0 d0) 45 (0, 0))) := (hb.block _ (by simp)).trans (heap_alloc_new w _)
      have HB1 : Hid (Below w.heap.size w w1) := Below.trans ((Below.refl _ _).alloc (Nat.le_refl _) _) (hb.mono (by simp))
      have q8 : w1.cell? ⟨w.heap.size, 8, none⟩ = some (.slice B0 P0.body.length d0) := (blk_cell H1.out 8).trans rfl
      clear hb
      go_wp2
      go_ret
      exact ⟨rfl, HB1.out⟩
  · have i0 : (3000 : Int) < (P0.body.length : Int) := by omega
    clear hC1 hw1 hR1
    go_enter Try.func9, Try.ntmps9
    go_wp2_with fail
    with_reducible refine (awake_any _).mono ?_
    rintro e w1 ⟨rfl, hb⟩
    have H1 : Hid (w1.heap[w.heap.size]? = some (.cells (pkc P0 A0 c0 B0 d0) 45 (0, 0))) := (hb.block _ (by simp)).trans (heap_alloc_new w _)
    have HB1 : Hid (Below w.heap.size w w1) := Below.trans ((Below.refl _ _).alloc (Nat.le_refl _) _) (hb.mono (by simp))
    have q8 : w1.cell? ⟨w.heap.size, 8, none⟩ = some (.slice B0 P0.body.length d0) := (blk_cell H1.out 8).trans rfl
    clear hb
    go_wp2
    go_ret
    exact ⟨rfl, HB1.out⟩
end Go.Proofs.Ytkcjgkfgjbhfnaa
