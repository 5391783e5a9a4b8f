import Derived.Test.YtfklojheogidpaaKit3
set_option linter.unusedVariables false
set_option linter.unusedSimpArgs false
namespace Go.Proofs.Ytfklojheogidpaa
open Go.RowKit Go.Proofs.YtfklojheogidpaaW.PrintWords Go.Proofs.YtfklojheogidpaaW.PrintLast Go.Proofs.YtfklojheogidpaaW.PrintMore

theorem neq_self (l : List Int) (hl : l.length = 4) (w : World) : (binOp .neq 27 (.agg (Ls l)) (.agg (Ls l))).run Try.prog w = .ok (.bool false) w := by
  have := neqLs l l hl hl w
  rwa [decide_eq_true rfl] at this
theorem stepv {ops : Array Oper} {rest : List Oper} {o : Oper} {a : Act} {w : World} {Q : Exit → Act → World → Prop} (v : Value) (hw : Region.wanted o (yielded ops a.tmps) = true) (hrun : (execOp a.eval o).run Try.prog w = .ok (.value v) w)
    (h : wpList Try.prog ops Q rest (a.put o.dst v) w) : wpList Try.prog ops Q (o :: rest) a w :=
  BigFrame.wpList_want hw fun K hK => by
    unfold Oper.wp
    simp only [hrun]
    exact hK _ _ h
theorem skip_eq {ops : Array Oper} {rest : List Oper} {o : Oper} {a : Act} {w : World} {Q : Exit → Act → World → Prop} (hw : Region.wanted o (yielded ops a.tmps) = false) :
    wpList Try.prog ops Q (o :: rest) a w = wpList Try.prog ops Q rest (a.put o.dst undef) w := by
  conv => lhs; unfold wpList
  rw [hw]
  rfl
section
variable {ρ : Operand → Value} {dst : Option Tmp} {ty : TypeId} {pos : String} {aft : Array Edge} {x y : Operand} {w : World} {g : Option (Nat × Bool)}
theorem rload24 {b : Nat} {l : List Int} (hx : ρ x = .pointer (some ⟨b, 0, none⟩)) (hg : w.heap[b]? = some (.cells (Ls l) 24 (0, 0))) (hl : l.length = 4) : (execOp ρ { dst := dst, op := .load 24 x, type := ty, pos := pos, after := aft, guard := g }).run Try.prog w = .ok (.value (.agg (Ls l))) w := by
  unfold execOp
  simp only [hx, Instr.loadAt, Instr.sureAddr, Sem.run_bind, Sem.run_pure, Result.andThen_ok, run_loadVar_row w b 24 24 (Ls l) (0, 0) _ hg Try.underlying24 rfl (by rw [Ls_size, hl]; exact info24)]
theorem rload27 {b : Nat} {l : List Int} (hx : ρ x = .pointer (some ⟨b, 0, none⟩)) (hg : w.heap[b]? = some (.cells (Ls l) 27 (0, 0))) (hl : l.length = 4) : (execOp ρ { dst := dst, op := .load 27 x, type := ty, pos := pos, after := aft, guard := g }).run Try.prog w = .ok (.value (.agg (Ls l))) w := by
  unfold execOp
  simp only [hx, Instr.loadAt, Instr.sureAddr, Sem.run_bind, Sem.run_pure, Result.andThen_ok, run_loadVar_row w b 27 27 (Ls l) (0, 0) _ hg Try.underlying27 rfl (by rw [Ls_size, hl]; exact info27)]
theorem rneq27 {l : List Int} (hx : ρ x = .agg (Ls l)) (hy : ρ y = .agg (Ls l)) (hl : l.length = 4) : (execOp ρ { dst := dst, op := .binOp .neq 27 x y 27, type := ty, pos := pos, after := aft, guard := g }).run Try.prog w = .ok (.value (.bool false)) w := by
  have hg := run_eqGuard_agg (P := Try.prog) (w := w) .neq 27 x y (Ls l) (Ls l) (by kernel_rfl)
  have hn := neq_self l hl w
  unfold execOp
  simp only [hx, hy]
  simp [hg, hn]
theorem reql3 {p q : Int} {r : Bool} (hx : ρ x = .int .i64 p) (hy : ρ y = .int .i64 q) (hr : (p == q) = r) : (execOp ρ { dst := dst, op := .binOp .eql 3 x y 3, type := ty, pos := pos, after := aft, guard := g }).run Try.prog w = .ok (.value (.bool r)) w := by
  subst hr
  simp only [execOp, hx, hy]
  simp [eqGuard, go_sem, binOp, Op.equal, Op.equalIn, Op.maxDepth, Try.underlying3]
theorem rneq3 {p q : Int} {r : Bool} (hx : ρ x = .int .i64 p) (hy : ρ y = .int .i64 q) (hr : (p != q) = r) : (execOp ρ { dst := dst, op := .binOp .neq 3 x y 3, type := ty, pos := pos, after := aft, guard := g }).run Try.prog w = .ok (.value (.bool r)) w := by
  subst hr
  simp only [execOp, hx, hy]
  simp [eqGuard, go_sem, binOp, Op.equal, Op.equalIn, Op.maxDepth, Try.underlying3]
end
theorem neq27w {ops : Array Oper} {rest : List Oper} {o : Oper} {a : Act} {w : World} {Q : Exit → Act → World → Prop} (hw : Region.wanted o (yielded ops a.tmps) = true) (x y : Operand) (ho : o.op = .binOp .neq 27 x y 27) (l : List Int) (hx : a.eval x = .agg (Ls l)) (hy : a.eval y = .agg (Ls l)) (hl : l.length = 4)
    (h : wpList Try.prog ops Q rest (a.put o.dst (.bool false)) w) : wpList Try.prog ops Q (o :: rest) a w :=
  BigFrame.wpList_want hw fun K hK => by
    have hg := run_eqGuard_agg (P := Try.prog) (w := w) .neq 27 x y (Ls l) (Ls l) (by kernel_rfl)
    have hn := neq_self l hl w
    have hrun : (execOp a.eval o).run Try.prog w = .ok (.value (.bool false)) w := by
      unfold execOp
      simp only [ho, hx, hy]
      simp [hg, hn]
    unfold Oper.wp
    simp only [hrun]
    exact hK _ _ h
/-- Two new blocks, filled. -/
theorem LS.put2 {W0 : World} {fs : List (Nat × List Int × TypeId)} {w : World} (h : LS W0 fs w) (l m : List Int) : LS W0 ((w.heap.size, l, 27) :: (w.heap.size + 1, m, 27) :: fs) ((((w.alloc (.cells (Ls [0, 0, 0, 0]) 27)).alloc (.cells (Ls [0, 0, 0, 0]) 27)).setRow w.heap.size (Ls l)).setRow (w.heap.size + 1) (Ls m)) := by
  have hA := ((Below.refl w.heap.size w).alloc (Nat.le_refl _) (.cells (Ls [0, 0, 0, 0]) 27)).alloc (by simp) (.cells (Ls [0, 0, 0, 0]) 27)
  have hb := below_setRow (below_setRow hA (Nat.le_refl _) (Ls l)) (show w.heap.size ≤ w.heap.size + 1 by omega) (Ls m)
  have h0 := heap_alloc2_old w (.cells (Ls [0, 0, 0, 0]) 27) (.cells (Ls [0, 0, 0, 0]) 27)
  have h1 := heap_alloc2_new w (.cells (Ls [0, 0, 0, 0]) 27) (.cells (Ls [0, 0, 0, 0]) 27)
  have k0 := h.below.size
  exact ((h.call hb).add (by omega) (ls_row (blk_row h1 (by omega)))).add k0 (blk_row (ls_row h0) (by omega))

set_option maxHeartbeats 4000000 in
set_option maxRecDepth 100000 in
theorem walk_FieldSame (w : World) (a0 : Int) (l1 : List Int) (l2 : List Int)
    (b0 : -9223372036854775808 ≤ a0 ∧ a0 ≤ 9223372036854775807) (hl1 : l1.length = 4) (hw1 : ∀ x ∈ l1, 0 ≤ x ∧ x ≤ 18446744073709551615) (hl2 : l2.length = 4) (hw2 : ∀ x ∈ l2, 0 ≤ x ∧ x ≤ 18446744073709551615) :
    Calls Try.prog 8 #[.int .i64 a0, .agg (nums .u64 l1).toArray, .agg (nums .u64 l2).toArray] w fun e w' => e = .returned (.bool true) ∧ Below w.heap.size w w' := by
  obtain ⟨v1, r1, e1⟩ := arr_E l1 hl1 hw1
  obtain ⟨v2, r2, e2⟩ := arr_E l2 hl2 hw2
  have N1 := Lib.hid (N.of r1)
  have N2 := Lib.hid (N.of r2)
  rw [e1, e2]
  clear e1 e2 r1 r2 hl1 hw1 hl2 hw2 b0
  obtain ⟨d, hd⟩ : ∃ d, decide (v1 % PP = v2 % PP) = d := ⟨_, rfl⟩
  have hsame : ∀ w', Calls Try.prog 38 #[.agg (Ls (lim v1)), .agg (Ls (lim v2))] w' fun e w2 => e = .returned (.bool d) ∧ Below w'.heap.size w' w2 := fun w' => by
    rw [← hd]; exact same_any v1 v2 N1.out.r N2.out.r w'
  have hrsame : ∀ {A B : Option Addr} {c e : Nat} (w' : World), Sl w' A c v1 → Sl w' B e v2 → Calls Try.prog 35 #[.slice A 32 c, .slice B 32 e] w' fun e w2 => e = .returned (.bool d) ∧ Below w'.heap.size w' w2 := fun w' hA hB => by
    rw [← hd]; exact rSame v1 v2 w' hA hB
  have HSAME := Lib.hid hsame
  have HRS : Hid (∀ {A B : Option Addr} {c e : Nat} (w' : World), Sl w' A c v1 → Sl w' B e v2 → Calls Try.prog 35 #[.slice A 32 c, .slice B 32 e] w' fun e w2 => e = .returned (.bool d) ∧ Below w'.heap.size w' w2) := hrsame
  have hn1 := fun w' => cNum N1.out w'
  have hn2 := fun w' => cNum N2.out w'
  have HN1 := Lib.hid hn1
  have HN2 := Lib.hid hn2
  have hon := fun w' => swap_on v1 v2 w'
  have hoff := fun (h : a0 ≠ 1) w' => swap_off a0 h v1 v2 w'
  unfold E at hon hoff
  have HON := Lib.hid hon
  have HOFF := Lib.hid hoff
  have LN1 := Lib.hid (lim_length v1)
  have LN2 := Lib.hid (lim_length v2)
  clear hsame hrsame hd hn1 hn2 hon hoff N1 N2
  generalize lim v1 = L1 at *
  generalize lim v2 = L2 at *
  by_cases ha : a0 = 1
  · skip
    subst ha
    have hsw : ∀ w', Calls Try.prog 37 #[.int .i64 1, .agg (Ls L1), .agg (Ls L2)] w' fun e w2 => e = .returned (.tuple #[.agg (Ls L2), .agg (Ls L1)]) ∧ Below w'.heap.size w' w2 := fun w' => HON.out w'
    have HSW := Lib.hid hsw
    clear hsw
    go_enter Try.func8, Try.ntmps8
    go_upto_region 0 with fail
    go_cut [4, 5, 6] (fun s4 s5 s6 wx => s4 = .pointer (some ⟨w.heap.size, 0, none⟩) ∧ s5 = .pointer (some ⟨w.heap.size + 1, 0, none⟩) ∧ s6 = .bool false ∧ LS w [(w.heap.size, L1, 24), (w.heap.size + 1, L2, 24)] wx)
    case first =>
      go_wp2_with fail
      go_meet
      exact ⟨rfl, rfl, rfl, LS.two _ _⟩
    case rest =>
    obtain ⟨rfl, rfl, rfl, hS⟩ := hcut
    have H0 := Lib.hid hS
    clear hS
    go_wp2_with fail
    refine (awake_any _).mono ?_
    rintro e w1 ⟨rfl, b⟩
    have H1 := Lib.hid (H0.out.call b)
    clear b H0
    go_upto_region 4 with fail
    go_cut [8, 9] (fun s8 s9 wx => ∃ b8 b9 : Nat, s8 = .pointer (some ⟨b8, 0, none⟩) ∧ s9 = .pointer (some ⟨b9, 0, none⟩) ∧ LS w ((b8, L2, 27) :: (b9, L1, 27) :: [(w.heap.size, L1, 24), (w.heap.size + 1, L2, 24)]) wx)
    case first =>
      go_wp2_with (first | (refine load24w (by rfl) _ rfl (w.heap.size) L1 rfl (H1.out.get _ _ _ (by simp)) LN1.out ?_) | (refine load24w (by rfl) _ rfl (w.heap.size + 1) L2 rfl (H1.out.get _ _ _ (by simp)) LN2.out ?_))
      refine (HSW.out _).mono ?_
      rintro e w2 ⟨rfl, b⟩
      have H2 := Lib.hid (H1.out.call b)
      clear b H1
      have HA := Lib.hid (heap_alloc2_old w2 (.cells (Ls [0, 0, 0, 0]) 27) (.cells (Ls [0, 0, 0, 0]) 27))
      have HB := Lib.hid (blk_row (g := w2.heap.size) (cs := Ls (L2)) (heap_alloc2_new w2 (.cells (Ls [0, 0, 0, 0]) 27) (.cells (Ls [0, 0, 0, 0]) 27)) (by omega))
      go_wp2_with (first | (refine store27 rfl _ _ rfl w2.heap.size L2 [0, 0, 0, 0] rfl rfl HA.out rfl LN2.out ?_) | (refine store27 rfl _ _ rfl (w2.heap.size + 1) L1 [0, 0, 0, 0] rfl rfl HB.out rfl LN1.out ?_))
      go_meet
      exact ⟨w2.heap.size, w2.heap.size + 1, rfl, rfl, H2.out.put2 _ _⟩
    case rest =>
    obtain ⟨b8, b9, rfl, rfl, hS⟩ := hcut
    have H3 := Lib.hid hS
    clear hS H1
    go_upto_region 5 with fail
    refine wp_region_lit ?_
    refine stepv (.int .i64 1) (by kernel_rfl) (by rfl) ?_
    simp only [Act.put, List.setIfInBounds_toArray, List.set_cons_zero, List.set_cons_succ]
    refine stepv (.bool true) (by kernel_rfl) (reql3 rfl rfl rfl) ?_
    simp only [Act.put, List.setIfInBounds_toArray, List.set_cons_zero, List.set_cons_succ]
    refine stepv (.bool true) (by kernel_rfl) (by rfl) ?_
    simp only [Act.put, List.setIfInBounds_toArray, List.set_cons_zero, List.set_cons_succ]
    refine stepv (.agg (Ls L2)) (by kernel_rfl) (rload27 rfl (H3.out.get (b8) _ _ (by simp)) LN2.out) ?_
    simp only [Act.put, List.setIfInBounds_toArray, List.set_cons_zero, List.set_cons_succ]
    refine stepv (.agg (Ls L2)) (by kernel_rfl) (rload24 rfl (H3.out.get (w.heap.size + 1) _ _ (by simp)) LN2.out) ?_
    simp only [Act.put, List.setIfInBounds_toArray, List.set_cons_zero, List.set_cons_succ]
    refine stepv (.bool false) (by kernel_rfl) (rneq27 rfl rfl LN2.out) ?_
    simp only [Act.put, List.setIfInBounds_toArray, List.set_cons_zero, List.set_cons_succ]
    refine stepv (.bool false) (by kernel_rfl) (by rfl) ?_
    simp only [Act.put, List.setIfInBounds_toArray, List.set_cons_zero, List.set_cons_succ]
    refine stepv (.agg (Ls L1)) (by kernel_rfl) (rload27 rfl (H3.out.get (b9) _ _ (by simp)) LN1.out) ?_
    simp only [Act.put, List.setIfInBounds_toArray, List.set_cons_zero, List.set_cons_succ]
    refine stepv (.agg (Ls L1)) (by kernel_rfl) (rload24 rfl (H3.out.get (w.heap.size) _ _ (by simp)) LN1.out) ?_
    simp only [Act.put, List.setIfInBounds_toArray, List.set_cons_zero, List.set_cons_succ]
    refine stepv (.bool false) (by kernel_rfl) (rneq27 rfl rfl LN1.out) ?_
    simp only [Act.put, List.setIfInBounds_toArray, List.set_cons_zero, List.set_cons_succ]
    refine stepv (.bool false) (by kernel_rfl) (by rfl) ?_
    simp only [Act.put, List.setIfInBounds_toArray, List.set_cons_zero, List.set_cons_succ]
    refine stepv (.bool false) (by kernel_rfl) (by rfl) ?_
    simp only [Act.put, List.setIfInBounds_toArray, List.set_cons_zero, List.set_cons_succ]
    refine stepv (.bool false) (by kernel_rfl) (by rfl) ?_
    simp only [Act.put, List.setIfInBounds_toArray, List.set_cons_zero, List.set_cons_succ]
    refine stepv (.int .i64 1) (by kernel_rfl) (by rfl) ?_
    simp only [Act.put, List.setIfInBounds_toArray, List.set_cons_zero, List.set_cons_succ]
    refine stepv (.bool false) (by kernel_rfl) (rneq3 rfl rfl rfl) ?_
    simp only [Act.put, List.setIfInBounds_toArray, List.set_cons_zero, List.set_cons_succ]
    refine stepv (.bool false) (by kernel_rfl) (by rfl) ?_
    simp only [Act.put, List.setIfInBounds_toArray, List.set_cons_zero, List.set_cons_succ]
    rw [skip_eq]
    rotate_left
    · kernel_rfl
    simp only [Act.put, List.setIfInBounds_toArray, List.set_cons_zero, List.set_cons_succ]
    rw [skip_eq]
    rotate_left
    · kernel_rfl
    simp only [Act.put, List.setIfInBounds_toArray, List.set_cons_zero, List.set_cons_succ]
    rw [skip_eq]
    rotate_left
    · kernel_rfl
    simp only [Act.put, List.setIfInBounds_toArray, List.set_cons_zero, List.set_cons_succ]
    rw [skip_eq]
    rotate_left
    · kernel_rfl
    simp only [Act.put, List.setIfInBounds_toArray, List.set_cons_zero, List.set_cons_succ]
    rw [skip_eq]
    rotate_left
    · kernel_rfl
    simp only [Act.put, List.setIfInBounds_toArray, List.set_cons_zero, List.set_cons_succ]
    rw [skip_eq]
    rotate_left
    · kernel_rfl
    simp only [Act.put, List.setIfInBounds_toArray, List.set_cons_zero, List.set_cons_succ]
    rw [skip_eq]
    rotate_left
    · kernel_rfl
    simp only [Act.put, List.setIfInBounds_toArray, List.set_cons_zero, List.set_cons_succ]
    rw [skip_eq]
    rotate_left
    · kernel_rfl
    simp only [Act.put, List.setIfInBounds_toArray, List.set_cons_zero, List.set_cons_succ]
    refine stepv (.bool false) (by kernel_rfl) (by rfl) ?_
    simp only [Act.put, List.setIfInBounds_toArray, List.set_cons_zero, List.set_cons_succ]
    refine stepv (.bool false) (by kernel_rfl) (by rfl) ?_
    simp only [Act.put, List.setIfInBounds_toArray, List.set_cons_zero, List.set_cons_succ]
    refine wpList_nil ?_
    go_upto_region 7 with fail
    refine wp_region_held_drew (S := LS w ((b8, L2, 27) :: (b9, L1, 27) :: [(w.heap.size, L1, 24), (w.heap.size + 1, L2, 24)])) (by kernel_rfl) H3.out.drew (fun h4 => ?_)
    refine wpAnyH_take (i := 0) (oi := { dst := some 46, op := Op.load 24 (Operand.tmp 4), type := 24, pos := "law.go:90", after := #[], guard := none }) (v := .agg (Ls L1)) rfl (by kernel_rfl) (by kernel_rfl) (by kernel_rfl) (fun _ _ _ h => h) (lload24 (by rfl) _ rfl (w.heap.size) L1 rfl (by simp) LN1.out) h4 ?_
    simp only [Act.put, List.setIfInBounds_toArray, List.set_cons_zero, List.set_cons_succ]
    refine wpAnyH_take (i := 1) (oi := { dst := some 47, op := Op.load 24 (Operand.tmp 5), type := 24, pos := "law.go:90", after := #[], guard := none }) (v := .agg (Ls L2)) rfl (by kernel_rfl) (by kernel_rfl) (by kernel_rfl) (fun _ _ _ h => h) (lload24 (by rfl) _ rfl (w.heap.size + 1) L2 rfl (by simp) LN2.out) h4 ?_
    simp only [Act.put, List.setIfInBounds_toArray, List.set_cons_zero, List.set_cons_succ]
    refine wpAnyH_take (i := 3) (oi := { dst := some 49, op := Op.load 24 (Operand.tmp 4), type := 24, pos := "law.go:90", after := #[], guard := none }) (v := .agg (Ls L1)) rfl (by kernel_rfl) (by kernel_rfl) (by kernel_rfl) (fun _ _ _ h => h) (lload24 (by rfl) _ rfl (w.heap.size) L1 rfl (by simp) LN1.out) h4 ?_
    simp only [Act.put, List.setIfInBounds_toArray, List.set_cons_zero, List.set_cons_succ]
    refine wpAnyH_take (i := 5) (oi := { dst := some 51, op := Op.load 24 (Operand.tmp 5), type := 24, pos := "law.go:90", after := #[], guard := none }) (v := .agg (Ls L2)) rfl (by kernel_rfl) (by kernel_rfl) (by kernel_rfl) (fun _ _ _ h => h) (lload24 (by rfl) _ rfl (w.heap.size + 1) L2 rfl (by simp) LN2.out) h4 ?_
    simp only [Act.put, List.setIfInBounds_toArray, List.set_cons_zero, List.set_cons_succ]
    refine wpAnyH_ready (rs := [2]) (by kernel_rfl) (by simp) ?_
    refine AllReadyH.cons (o := { dst := some 48, op := Op.call { callee := Callee.value (Operand.func 38), args := #[Operand.tmp 46, Operand.tmp 47], argTypes := #[27, 27] }, type := 4, pos := "law.go:90", after := #[{ on := 0, ground := Ground.data }, { on := 1, ground := Ground.data }], guard := none }) rfl (fun K hK => ?_) ?_
    · go_simp
      refine (HSAME.out _).mono ?_
      rintro e w5 ⟨rfl, b⟩
      refine hK.out _ _ (h4.call b) (fun h4' => ?_)
      clear hK K b
      refine wpAnyH_ready (rs := [4]) (by kernel_rfl) (by simp) ?_
      refine AllReadyH.cons (o := { dst := some 50, op := Op.call { callee := Callee.value (Operand.func 24), args := #[Operand.tmp 49], argTypes := #[24] }, type := 29, pos := "law.go:90", after := #[{ on := 3, ground := Ground.data }, { on := 2, ground := Ground.chain }], guard := none }) rfl (fun K hK => ?_) ?_
      · go_simp
        refine (HN1.out _).mono ?_
        rintro e w6 ⟨A6, c6, rfl, s6, b⟩
        have S6 := Lib.hid s6
        clear s6
        refine hK.out _ _ (h4'.call b) (fun h4'' => ?_)
        clear hK K b
        refine wpAnyH_ready (rs := [6]) (by kernel_rfl) (by simp) ?_
        refine AllReadyH.cons (o := { dst := some 52, op := Op.call { callee := Callee.value (Operand.func 24), args := #[Operand.tmp 51], argTypes := #[24] }, type := 29, pos := "law.go:90", after := #[{ on := 5, ground := Ground.data }, { on := 4, ground := Ground.chain }], guard := none }) rfl (fun K hK => ?_) ?_
        · go_simp
          refine (HN2.out _).mono ?_
          rintro e w7 ⟨A7, c7, rfl, s7, b⟩
          have S6b := Lib.hid (S6.out.below b)
          have S7 := Lib.hid s7
          clear s7
          refine hK.out _ _ (h4''.call b) (fun h4''' => ?_)
          clear hK K b
          refine wpAnyH_ready (rs := [7]) (by kernel_rfl) (by simp) ?_
          refine AllReadyH.cons (o := { dst := some 53, op := Op.call { callee := Callee.value (Operand.func 35), args := #[Operand.tmp 50, Operand.tmp 52], argTypes := #[29, 29] }, type := 4, pos := "law.go:90", after := #[{ on := 4, ground := Ground.data }, { on := 6, ground := Ground.data }, { on := 6, ground := Ground.chain }], guard := none }) rfl (fun K hK => ?_) ?_
          · go_simp
            refine (HRS.out _ S6b.out S7.out).mono ?_
            rintro e w8 ⟨rfl, b⟩
            refine hK.out _ _ (h4'''.call b) (fun h4'''' => ?_)
            clear hK K b
            refine wpAnyH_take (i := 8) (oi := { dst := some 54, op := Op.binOp BinOp.eql 4 (Operand.tmp 48) (Operand.tmp 53) 4, type := 4, pos := "law.go:90", after := #[{ on := 2, ground := Ground.data }, { on := 7, ground := Ground.data }], guard := none }) (v := .bool true) rfl (by kernel_rfl) (by kernel_rfl) (by kernel_rfl) (fun _ _ _ h => h) (Or.inl ⟨by rfl, fun w' _ => by cases d <;> rfl⟩) h4'''' ?_
            simp only [Act.put, List.setIfInBounds_toArray, List.set_cons_zero, List.set_cons_succ]
            refine wpAnyH_take (i := 9) (oi := { dst := some 6, op := Op.assign (Operand.tmp 54), type := 4, pos := "law.go:90", after := #[{ on := 8, ground := Ground.data }, { on := 7, ground := Ground.chain }, { on := 0, ground := Ground.phase }, { on := 1, ground := Ground.phase }, { on := 2, ground := Ground.phase }, { on := 3, ground := Ground.phase }, { on := 4, ground := Ground.phase }, { on := 5, ground := Ground.phase }, { on := 6, ground := Ground.phase }, { on := 7, ground := Ground.phase }, { on := 8, ground := Ground.phase }], guard := none }) (v := .bool true) rfl (by kernel_rfl) (by kernel_rfl) (by kernel_rfl) (fun _ _ _ h => h) (Or.inl ⟨by rfl, fun w' _ => by rfl⟩) h4'''' ?_
            simp only [Act.put, List.setIfInBounds_toArray, List.set_cons_zero, List.set_cons_succ]
            refine wpAnyH_done (by kernel_rfl) ?_ _
            go_wp2_with fail
            go_ret
            exact ⟨rfl, h4''''.below⟩
          exact AllReadyH.nil
        exact AllReadyH.nil
      exact AllReadyH.nil
    exact AllReadyH.nil
  · skip
    have hne : (a0 == 1) = false := beq_eq_false_iff_ne.2 ha
    have hne2 : (a0 != 1) = true := bne_iff_ne.2 ha
    have hsw : ∀ w', Calls Try.prog 37 #[.int .i64 a0, .agg (Ls L1), .agg (Ls L2)] w' fun e w2 => e = .returned (.tuple #[.agg (Ls L1), .agg (Ls L2)]) ∧ Below w'.heap.size w' w2 := fun w' => HOFF.out ha w'
    have HSW := Lib.hid hsw
    clear hsw
    go_enter Try.func8, Try.ntmps8
    go_upto_region 0 with fail
    go_cut [4, 5, 6] (fun s4 s5 s6 wx => s4 = .pointer (some ⟨w.heap.size, 0, none⟩) ∧ s5 = .pointer (some ⟨w.heap.size + 1, 0, none⟩) ∧ s6 = .bool false ∧ LS w [(w.heap.size, L1, 24), (w.heap.size + 1, L2, 24)] wx)
    case first =>
      go_wp2_with fail
      go_meet
      exact ⟨rfl, rfl, rfl, LS.two _ _⟩
    case rest =>
    obtain ⟨rfl, rfl, rfl, hS⟩ := hcut
    have H0 := Lib.hid hS
    clear hS
    go_wp2_with fail
    refine (awake_any _).mono ?_
    rintro e w1 ⟨rfl, b⟩
    have H1 := Lib.hid (H0.out.call b)
    clear b H0
    go_upto_region 4 with fail
    go_cut [8, 9] (fun s8 s9 wx => ∃ b8 b9 : Nat, s8 = .pointer (some ⟨b8, 0, none⟩) ∧ s9 = .pointer (some ⟨b9, 0, none⟩) ∧ LS w ((b8, L1, 27) :: (b9, L2, 27) :: [(w.heap.size, L1, 24), (w.heap.size + 1, L2, 24)]) wx)
    case first =>
      go_wp2_with (first | (refine load24w (by rfl) _ rfl (w.heap.size) L1 rfl (H1.out.get _ _ _ (by simp)) LN1.out ?_) | (refine load24w (by rfl) _ rfl (w.heap.size + 1) L2 rfl (H1.out.get _ _ _ (by simp)) LN2.out ?_))
      refine (HSW.out _).mono ?_
      rintro e w2 ⟨rfl, b⟩
      have H2 := Lib.hid (H1.out.call b)
      clear b H1
      have HA := Lib.hid (heap_alloc2_old w2 (.cells (Ls [0, 0, 0, 0]) 27) (.cells (Ls [0, 0, 0, 0]) 27))
      have HB := Lib.hid (blk_row (g := w2.heap.size) (cs := Ls (L1)) (heap_alloc2_new w2 (.cells (Ls [0, 0, 0, 0]) 27) (.cells (Ls [0, 0, 0, 0]) 27)) (by omega))
      go_wp2_with (first | (refine store27 rfl _ _ rfl w2.heap.size L1 [0, 0, 0, 0] rfl rfl HA.out rfl LN1.out ?_) | (refine store27 rfl _ _ rfl (w2.heap.size + 1) L2 [0, 0, 0, 0] rfl rfl HB.out rfl LN2.out ?_))
      go_meet
      exact ⟨w2.heap.size, w2.heap.size + 1, rfl, rfl, H2.out.put2 _ _⟩
    case rest =>
    obtain ⟨b8, b9, rfl, rfl, hS⟩ := hcut
    have H3 := Lib.hid hS
    clear hS H1
    go_upto_region 5 with fail
    refine wp_region_lit ?_
    refine stepv (.int .i64 a0) (by kernel_rfl) (by rfl) ?_
    simp only [Act.put, List.setIfInBounds_toArray, List.set_cons_zero, List.set_cons_succ]
    refine stepv (.bool false) (by kernel_rfl) (reql3 rfl rfl hne) ?_
    simp only [Act.put, List.setIfInBounds_toArray, List.set_cons_zero, List.set_cons_succ]
    refine stepv (.bool false) (by kernel_rfl) (by rfl) ?_
    simp only [Act.put, List.setIfInBounds_toArray, List.set_cons_zero, List.set_cons_succ]
    rw [skip_eq]
    rotate_left
    · kernel_rfl
    simp only [Act.put, List.setIfInBounds_toArray, List.set_cons_zero, List.set_cons_succ]
    rw [skip_eq]
    rotate_left
    · kernel_rfl
    simp only [Act.put, List.setIfInBounds_toArray, List.set_cons_zero, List.set_cons_succ]
    rw [skip_eq]
    rotate_left
    · kernel_rfl
    simp only [Act.put, List.setIfInBounds_toArray, List.set_cons_zero, List.set_cons_succ]
    rw [skip_eq]
    rotate_left
    · kernel_rfl
    simp only [Act.put, List.setIfInBounds_toArray, List.set_cons_zero, List.set_cons_succ]
    rw [skip_eq]
    rotate_left
    · kernel_rfl
    simp only [Act.put, List.setIfInBounds_toArray, List.set_cons_zero, List.set_cons_succ]
    rw [skip_eq]
    rotate_left
    · kernel_rfl
    simp only [Act.put, List.setIfInBounds_toArray, List.set_cons_zero, List.set_cons_succ]
    rw [skip_eq]
    rotate_left
    · kernel_rfl
    simp only [Act.put, List.setIfInBounds_toArray, List.set_cons_zero, List.set_cons_succ]
    rw [skip_eq]
    rotate_left
    · kernel_rfl
    simp only [Act.put, List.setIfInBounds_toArray, List.set_cons_zero, List.set_cons_succ]
    refine stepv (.bool false) (by kernel_rfl) (by rfl) ?_
    simp only [Act.put, List.setIfInBounds_toArray, List.set_cons_zero, List.set_cons_succ]
    refine stepv (.bool false) (by kernel_rfl) (by rfl) ?_
    simp only [Act.put, List.setIfInBounds_toArray, List.set_cons_zero, List.set_cons_succ]
    refine stepv (.int .i64 a0) (by kernel_rfl) (by rfl) ?_
    simp only [Act.put, List.setIfInBounds_toArray, List.set_cons_zero, List.set_cons_succ]
    refine stepv (.bool true) (by kernel_rfl) (rneq3 rfl rfl hne2) ?_
    simp only [Act.put, List.setIfInBounds_toArray, List.set_cons_zero, List.set_cons_succ]
    refine stepv (.bool true) (by kernel_rfl) (by rfl) ?_
    simp only [Act.put, List.setIfInBounds_toArray, List.set_cons_zero, List.set_cons_succ]
    refine stepv (.agg (Ls L1)) (by kernel_rfl) (rload27 rfl (H3.out.get (b8) _ _ (by simp)) LN1.out) ?_
    simp only [Act.put, List.setIfInBounds_toArray, List.set_cons_zero, List.set_cons_succ]
    refine stepv (.agg (Ls L1)) (by kernel_rfl) (rload24 rfl (H3.out.get (w.heap.size) _ _ (by simp)) LN1.out) ?_
    simp only [Act.put, List.setIfInBounds_toArray, List.set_cons_zero, List.set_cons_succ]
    refine stepv (.bool false) (by kernel_rfl) (rneq27 rfl rfl LN1.out) ?_
    simp only [Act.put, List.setIfInBounds_toArray, List.set_cons_zero, List.set_cons_succ]
    refine stepv (.bool false) (by kernel_rfl) (by rfl) ?_
    simp only [Act.put, List.setIfInBounds_toArray, List.set_cons_zero, List.set_cons_succ]
    refine stepv (.agg (Ls L2)) (by kernel_rfl) (rload27 rfl (H3.out.get (b9) _ _ (by simp)) LN2.out) ?_
    simp only [Act.put, List.setIfInBounds_toArray, List.set_cons_zero, List.set_cons_succ]
    refine stepv (.agg (Ls L2)) (by kernel_rfl) (rload24 rfl (H3.out.get (w.heap.size + 1) _ _ (by simp)) LN2.out) ?_
    simp only [Act.put, List.setIfInBounds_toArray, List.set_cons_zero, List.set_cons_succ]
    refine stepv (.bool false) (by kernel_rfl) (rneq27 rfl rfl LN2.out) ?_
    simp only [Act.put, List.setIfInBounds_toArray, List.set_cons_zero, List.set_cons_succ]
    refine stepv (.bool false) (by kernel_rfl) (by rfl) ?_
    simp only [Act.put, List.setIfInBounds_toArray, List.set_cons_zero, List.set_cons_succ]
    refine stepv (.bool false) (by kernel_rfl) (by rfl) ?_
    simp only [Act.put, List.setIfInBounds_toArray, List.set_cons_zero, List.set_cons_succ]
    refine stepv (.bool false) (by kernel_rfl) (by rfl) ?_
    simp only [Act.put, List.setIfInBounds_toArray, List.set_cons_zero, List.set_cons_succ]
    refine wpList_nil ?_
    go_upto_region 7 with fail
    refine wp_region_held_drew (S := LS w ((b8, L1, 27) :: (b9, L2, 27) :: [(w.heap.size, L1, 24), (w.heap.size + 1, L2, 24)])) (by kernel_rfl) H3.out.drew (fun h4 => ?_)
    refine wpAnyH_take (i := 0) (oi := { dst := some 46, op := Op.load 24 (Operand.tmp 4), type := 24, pos := "law.go:90", after := #[], guard := none }) (v := .agg (Ls L1)) rfl (by kernel_rfl) (by kernel_rfl) (by kernel_rfl) (fun _ _ _ h => h) (lload24 (by rfl) _ rfl (w.heap.size) L1 rfl (by simp) LN1.out) h4 ?_
    simp only [Act.put, List.setIfInBounds_toArray, List.set_cons_zero, List.set_cons_succ]
    refine wpAnyH_take (i := 1) (oi := { dst := some 47, op := Op.load 24 (Operand.tmp 5), type := 24, pos := "law.go:90", after := #[], guard := none }) (v := .agg (Ls L2)) rfl (by kernel_rfl) (by kernel_rfl) (by kernel_rfl) (fun _ _ _ h => h) (lload24 (by rfl) _ rfl (w.heap.size + 1) L2 rfl (by simp) LN2.out) h4 ?_
    simp only [Act.put, List.setIfInBounds_toArray, List.set_cons_zero, List.set_cons_succ]
    refine wpAnyH_take (i := 3) (oi := { dst := some 49, op := Op.load 24 (Operand.tmp 4), type := 24, pos := "law.go:90", after := #[], guard := none }) (v := .agg (Ls L1)) rfl (by kernel_rfl) (by kernel_rfl) (by kernel_rfl) (fun _ _ _ h => h) (lload24 (by rfl) _ rfl (w.heap.size) L1 rfl (by simp) LN1.out) h4 ?_
    simp only [Act.put, List.setIfInBounds_toArray, List.set_cons_zero, List.set_cons_succ]
    refine wpAnyH_take (i := 5) (oi := { dst := some 51, op := Op.load 24 (Operand.tmp 5), type := 24, pos := "law.go:90", after := #[], guard := none }) (v := .agg (Ls L2)) rfl (by kernel_rfl) (by kernel_rfl) (by kernel_rfl) (fun _ _ _ h => h) (lload24 (by rfl) _ rfl (w.heap.size + 1) L2 rfl (by simp) LN2.out) h4 ?_
    simp only [Act.put, List.setIfInBounds_toArray, List.set_cons_zero, List.set_cons_succ]
    refine wpAnyH_ready (rs := [2]) (by kernel_rfl) (by simp) ?_
    refine AllReadyH.cons (o := { dst := some 48, op := Op.call { callee := Callee.value (Operand.func 38), args := #[Operand.tmp 46, Operand.tmp 47], argTypes := #[27, 27] }, type := 4, pos := "law.go:90", after := #[{ on := 0, ground := Ground.data }, { on := 1, ground := Ground.data }], guard := none }) rfl (fun K hK => ?_) ?_
    · go_simp
      refine (HSAME.out _).mono ?_
      rintro e w5 ⟨rfl, b⟩
      refine hK.out _ _ (h4.call b) (fun h4' => ?_)
      clear hK K b
      refine wpAnyH_ready (rs := [4]) (by kernel_rfl) (by simp) ?_
      refine AllReadyH.cons (o := { dst := some 50, op := Op.call { callee := Callee.value (Operand.func 24), args := #[Operand.tmp 49], argTypes := #[24] }, type := 29, pos := "law.go:90", after := #[{ on := 3, ground := Ground.data }, { on := 2, ground := Ground.chain }], guard := none }) rfl (fun K hK => ?_) ?_
      · go_simp
        refine (HN1.out _).mono ?_
        rintro e w6 ⟨A6, c6, rfl, s6, b⟩
        have S6 := Lib.hid s6
        clear s6
        refine hK.out _ _ (h4'.call b) (fun h4'' => ?_)
        clear hK K b
        refine wpAnyH_ready (rs := [6]) (by kernel_rfl) (by simp) ?_
        refine AllReadyH.cons (o := { dst := some 52, op := Op.call { callee := Callee.value (Operand.func 24), args := #[Operand.tmp 51], argTypes := #[24] }, type := 29, pos := "law.go:90", after := #[{ on := 5, ground := Ground.data }, { on := 4, ground := Ground.chain }], guard := none }) rfl (fun K hK => ?_) ?_
        · go_simp
          refine (HN2.out _).mono ?_
          rintro e w7 ⟨A7, c7, rfl, s7, b⟩
          have S6b := Lib.hid (S6.out.below b)
          have S7 := Lib.hid s7
          clear s7
          refine hK.out _ _ (h4''.call b) (fun h4''' => ?_)
          clear hK K b
          refine wpAnyH_ready (rs := [7]) (by kernel_rfl) (by simp) ?_
          refine AllReadyH.cons (o := { dst := some 53, op := Op.call { callee := Callee.value (Operand.func 35), args := #[Operand.tmp 50, Operand.tmp 52], argTypes := #[29, 29] }, type := 4, pos := "law.go:90", after := #[{ on := 4, ground := Ground.data }, { on := 6, ground := Ground.data }, { on := 6, ground := Ground.chain }], guard := none }) rfl (fun K hK => ?_) ?_
          · go_simp
            refine (HRS.out _ S6b.out S7.out).mono ?_
            rintro e w8 ⟨rfl, b⟩
            refine hK.out _ _ (h4'''.call b) (fun h4'''' => ?_)
            clear hK K b
            refine wpAnyH_take (i := 8) (oi := { dst := some 54, op := Op.binOp BinOp.eql 4 (Operand.tmp 48) (Operand.tmp 53) 4, type := 4, pos := "law.go:90", after := #[{ on := 2, ground := Ground.data }, { on := 7, ground := Ground.data }], guard := none }) (v := .bool true) rfl (by kernel_rfl) (by kernel_rfl) (by kernel_rfl) (fun _ _ _ h => h) (Or.inl ⟨by rfl, fun w' _ => by cases d <;> rfl⟩) h4'''' ?_
            simp only [Act.put, List.setIfInBounds_toArray, List.set_cons_zero, List.set_cons_succ]
            refine wpAnyH_take (i := 9) (oi := { dst := some 6, op := Op.assign (Operand.tmp 54), type := 4, pos := "law.go:90", after := #[{ on := 8, ground := Ground.data }, { on := 7, ground := Ground.chain }, { on := 0, ground := Ground.phase }, { on := 1, ground := Ground.phase }, { on := 2, ground := Ground.phase }, { on := 3, ground := Ground.phase }, { on := 4, ground := Ground.phase }, { on := 5, ground := Ground.phase }, { on := 6, ground := Ground.phase }, { on := 7, ground := Ground.phase }, { on := 8, ground := Ground.phase }], guard := none }) (v := .bool true) rfl (by kernel_rfl) (by kernel_rfl) (by kernel_rfl) (fun _ _ _ h => h) (Or.inl ⟨by rfl, fun w' _ => by rfl⟩) h4'''' ?_
            simp only [Act.put, List.setIfInBounds_toArray, List.set_cons_zero, List.set_cons_succ]
            refine wpAnyH_done (by kernel_rfl) ?_ _
            go_wp2_with fail
            go_ret
            exact ⟨rfl, h4''''.below⟩
          exact AllReadyH.nil
        exact AllReadyH.nil
      exact AllReadyH.nil
    exact AllReadyH.nil

end Go.Proofs.Ytfklojheogidpaa
