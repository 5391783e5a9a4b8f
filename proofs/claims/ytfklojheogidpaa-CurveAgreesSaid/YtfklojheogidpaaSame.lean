import Derived.Test.YtfklojheogidpaaRest
import Derived.Laws.StructEq
set_option linter.unusedVariables false
namespace Go.Proofs.Ytfklojheogidpaa
open Go.RowKit Go.Proofs.YtfklojheogidpaaW.PrintWords

/-! ### Arrays of four words, compared -/
theorem info23 : (Try.prog.info? 23).map (·.size) = some 1 := by kernel_rfl
theorem part23 (v0 v1 v2 v3 : Int) (i : Nat) (v : Value) (w : World) (h : (#[Value.int IntKind.u64 v0, .int .u64 v1, .int .u64 v2, .int .u64 v3] : Array Value)[i]? = some v) : (part 23 #[.int .u64 v0, .int .u64 v1, .int .u64 v2, .int .u64 v3] i).run Try.prog w = .ok v w := by
  simp [part, h]
theorem eql4 (a b c d a' b' c' d' : Int) (w : World) :
    (binOp .eql 27 (.agg #[.int .u64 a, .int .u64 b, .int .u64 c, .int .u64 d]) (.agg #[.int .u64 a', .int .u64 b', .int .u64 c', .int .u64 d'])).run Try.prog w = .ok (.bool (a == a' && (b == b' && (c == c' && d == d')))) w := by
  rw [run_eql_struct]
  have h23 : ∀ w, (sizeOf 23).run Try.prog w = .ok 1 w := fun w => by kernel_rfl
  rw [Op.equalIn]
  have e0 := fun w => part23 a b c d 0 (.int .u64 a) w rfl
  have e1 := fun w => part23 a b c d 1 (.int .u64 b) w rfl
  have e2 := fun w => part23 a b c d 2 (.int .u64 c) w rfl
  have e3 := fun w => part23 a b c d 3 (.int .u64 d) w rfl
  have g0 := fun w => part23 a' b' c' d' 0 (.int .u64 a') w rfl
  have g1 := fun w => part23 a' b' c' d' 1 (.int .u64 b') w rfl
  have g2 := fun w => part23 a' b' c' d' 2 (.int .u64 c') w rfl
  have g3 := fun w => part23 a' b' c' d' 3 (.int .u64 d') w rfl
  have hq : ∀ (x y : Int) w, (Op.equalIn 9999 23 (.int .u64 x) (.int .u64 y)).run Try.prog w = .ok (x == y) w := fun x y w => run_equalIn_int w 9998 23 .u64 .u64 x y Try.underlying23
  obtain ⟨b1, hb1⟩ : ∃ q, (a == a') = q := ⟨_, rfl⟩
  obtain ⟨b2, hb2⟩ : ∃ q, (b == b') = q := ⟨_, rfl⟩
  obtain ⟨b3, hb3⟩ : ∃ q, (c == c') = q := ⟨_, rfl⟩
  obtain ⟨b4, hb4⟩ : ∃ q, (d == d') = q := ⟨_, rfl⟩
  have q1 := fun w => (hq a a' w).trans (by rw [hb1])
  have q2 := fun w => (hq b b' w).trans (by rw [hb2])
  have q3 := fun w => (hq c c' w).trans (by rw [hb3])
  have q4 := fun w => (hq d d' w).trans (by rw [hb4])
  rw [hb1, hb2, hb3, hb4]
  clear hq hb1 hb2 hb3 hb4
  cases b1 <;> cases b2 <;> cases b3 <;> cases b4 <;> simp [run_underlying Try.underlying27, h23, List.range', e0, e1, e2, e3, g0, g1, g2, g3, q1, q2, q3, q4]
theorem eqlLs (l m : List Int) (hl : l.length = 4) (hm : m.length = 4) (w : World) : (binOp .eql 27 (.agg (Ls l)) (.agg (Ls m))).run Try.prog w = .ok (.bool (decide (l = m))) w := by
  match l, hl, m, hm with
  | [a, b, c, d], _, [a', b', c', d'], _ =>
    have h := eql4 a b c d a' b' c' d' w
    have e : (a == a' && (b == b' && (c == c' && d == d'))) = decide ([a, b, c, d] = [a', b', c', d']) := by
      rw [Bool.eq_iff_iff]
      simp
    rw [e] at h
    exact h
theorem neqLs (l m : List Int) (hl : l.length = 4) (hm : m.length = 4) (w : World) : (binOp .neq 27 (.agg (Ls l)) (.agg (Ls m))).run Try.prog w = .ok (.bool (!decide (l = m))) w := by
  have h := eqlLs l m hl hm w
  rw [run_eql_struct] at h
  rw [run_neq_struct]
  cases hr : (Op.equalIn 10000 27 (.agg (Ls l)) (.agg (Ls m))).run Try.prog w with
  | ok b w1 =>
    rw [hr] at h
    simp only [Result.andThen_ok, Result.ok.injEq, Value.bool.injEq] at h
    obtain ⟨h1, h2⟩ := h
    subst h1 h2
    rfl
  | halt x w1 =>
    rw [hr] at h
    simp [Result.andThen] at h

theorem eql_step {ρ : Operand → Value} {dst : Option Tmp} {ty : TypeId} {pos : String} {aft : Array Edge} {x y : Operand} {w : World} {xs ys : Array Value} {b : Value} (h : (binOp .eql 27 (.agg xs) (.agg ys)).run Try.prog w = .ok b w) (hm : Try.prog.eqGuardType Try.prog.depth 27 = false) (hx : ρ x = .agg xs) (hy : ρ y = .agg ys) :
    (execOp ρ { dst := dst, op := .binOp .eql 27 x y 27, type := ty, pos := pos, after := aft, guard := none }).run Try.prog w = .ok (.value b) w := by
  have hg := run_eqGuard_agg (P := Try.prog) (w := w) .eql 27 x y xs ys hm
  simp only [execOp, hx, hy]
  simp [hg, h]

/-! ### Square, squares, Same -/
theorem mulV_range (v u : Int) (hv0 : 0 ≤ v) (hv1 : v < BB) (hu0 : 0 ≤ u) (hu1 : u < BB) : 0 ≤ mulV v u ∧ mulV v u < BB := by
  have h0 : 0 ≤ v * u := Int.mul_nonneg hv0 hu0
  have h1 : v * u ≤ (BB - 1) * (BB - 1) := Int.mul_le_mul (by omega) (by omega) hu0 (by unfold BB; omega)
  have hq : 0 ≤ (v * u) / BB ∧ (v * u) / BB < BB := by
    generalize v * u = p at *
    unfold BB at *
    omega
  have ht := timesV_range ((v * u) / BB) 38 hq.1 hq.2 (by omega) (by omega)
  refine addV_range _ _ ?_ ?_ ht.1 ht.2
  all_goals (generalize v * u = p at *; unfold BB; omega)
theorem range_mul {v u : Int} (h : 0 ≤ v ∧ v < BB) (k : 0 ≤ u ∧ u < BB) : 0 ≤ mulV v u ∧ mulV v u < BB := mulV_range v u h.1 h.2 k.1 k.2
def sqN (v : Int) : Nat → Int
  | 0 => v
  | k + 1 => mulV (sqN v k) (sqN v k)
theorem range_sq {v : Int} (h : 0 ≤ v ∧ v < BB) (k : Nat) : 0 ≤ sqN v k ∧ sqN v k < BB := by
  induction k with
  | zero => exact h
  | succ k ih => exact range_mul ih ih

set_option maxHeartbeats 1000000 in
theorem square_any (v : Int) (h : 0 ≤ v ∧ v < BB) (w : World) :
    Calls Try.prog 33 #[.agg (E v)] w fun e w' => e = .returned (.agg (E (mulV v v))) ∧ Below w.heap.size w w' := by
  have HV := Lib.hid h
  clear h
  go_enter Try.func33, Try.ntmps33
  go_upto_region 0 with fail
  go_cut [1, 2] (fun s1 s2 wx => s1 = .pointer (some ⟨w.heap.size, 0, none⟩) ∧ s2 = .pointer (some ⟨w.heap.size + 1, 0, none⟩) ∧ wx.heap[w.heap.size]? = some (.cells (Ls (lim v)) 27 (0, 0)) ∧ wx.heap[w.heap.size + 1]? = some (.cells (Ls [0, 0, 0, 0]) 27 (0, 0)) ∧ Below w.heap.size w wx)
  case first =>
    go_wp2_with fail
    go_meet
    exact ⟨rfl, rfl, heap_alloc2_old w _ _, heap_alloc2_new w _ _, ((Below.refl w.heap.size w).alloc (Nat.le_refl _) _).alloc (by simp) _⟩
  case rest =>
    obtain ⟨rfl, rfl, hb0, hb1, hB⟩ := hcut
    have HB0 := Lib.hid hb0
    have HB1 := Lib.hid hb1
    have HB := Lib.hid hB
    clear hb0 hb1 hB
    go_wp2_with (refine load27 rfl _ rfl w.heap.size (lim v) rfl HB0.out rfl ?_)
    refine (mul_any v v HV.out.1 HV.out.2 HV.out.1 HV.out.2 _).mono ?_
    rintro e w2 ⟨rfl, b2⟩
    have HC1 := Lib.hid ((b2.block _ (blk_lt HB1.out)).trans HB1.out)
    have HCB := Lib.hid (HB.out.trans (b2.mono HB.out.size))
    clear b2
    go_wp2_with (refine store27 rfl _ _ rfl (w.heap.size + 1) (lim (mulV v v)) [0, 0, 0, 0] rfl rfl HC1.out rfl rfl ?_)
    refine ret27 rfl (w.heap.size + 1) (lim (mulV v v)) rfl (ls_row HC1.out) rfl rfl ?_
    exact ⟨rfl, below_setRow HCB.out (by omega) _⟩

set_option maxHeartbeats 1000000 in
theorem squares_any (v : Int) (n : Nat) (hn : n ≤ 1000) (h : 0 ≤ v ∧ v < BB) (w : World) :
    Calls Try.prog 57 #[.agg (E v), .int .i64 n] w fun e w' => e = .returned (.agg (E (sqN v n))) ∧ Below w.heap.size w w' := by
  have HV := Lib.hid h
  clear h
  go_enter Try.func57, Try.ntmps57
  go_upto_region 0 with fail
  go_cut [2, 4] (fun s1 s2 wx => s1 = .pointer (some ⟨w.heap.size, 0, none⟩) ∧ s2 = .pointer (some ⟨w.heap.size + 1, 0, none⟩) ∧ wx.heap[w.heap.size]? = some (.cells (Ls (lim v)) 27 (0, 0)) ∧ wx.heap[w.heap.size + 1]? = some (.cells (Ls [0, 0, 0, 0]) 27 (0, 0)) ∧ Below w.heap.size w wx)
  case first =>
    go_wp2_with fail
    go_meet
    exact ⟨rfl, rfl, heap_alloc2_old w _ _, heap_alloc2_new w _ _, ((Below.refl w.heap.size w).alloc (Nat.le_refl _) _).alloc (by simp) _⟩
  case rest =>
    obtain ⟨rfl, rfl, hb0, hb1, hB⟩ := hcut
    have HB0 := Lib.hid hb0
    have HB1 := Lib.hid hb1
    have HB := Lib.hid hB
    clear hb0 hb1 hB
    go_wp2_with fail
    go_loopw [6] (fun s6 wr => ∃ k : Nat, k ≤ n ∧ s6 = .int .i64 k ∧ wr.heap[w.heap.size]? = some (.cells (Ls (lim (sqN v k))) 27 (0, 0)) ∧ wr.heap[w.heap.size + 1]? = some (.cells (Ls [0, 0, 0, 0]) 27 (0, 0)) ∧ Below w.heap.size w wr) (fun s6 _ => n - (intOf s6).toNat)
    case atStart => exact ⟨0, by omega, rfl, HB0.out, HB1.out, HB.out⟩
    case round =>
      clear HB0 HB1 HB
      obtain ⟨k, hk, rfl, hb0, hb1, hB⟩ := hrel
      have HB0 := Lib.hid hb0
      have HB1 := Lib.hid hb1
      have HB := Lib.hid hB
      clear hb0 hb1 hB
      by_cases hlt : k < n
      · have HR := Lib.hid (range_sq HV.out k)
        go_wp2_with (refine load27 rfl _ rfl w.heap.size (lim (sqN v k)) rfl HB0.out rfl ?_)
        refine (square_any (sqN v k) HR.out _).mono ?_
        rintro e w2 ⟨rfl, b2⟩
        have HC0 := Lib.hid ((b2.block _ (blk_lt HB0.out)).trans HB0.out)
        have HC1 := Lib.hid ((b2.block _ (blk_lt HB1.out)).trans HB1.out)
        have HCB := Lib.hid (HB.out.trans (b2.mono HB.out.size))
        clear b2 HB0 HB1 HB
        go_wp2_with (refine store27 rfl _ _ rfl w.heap.size (lim (mulV (sqN v k) (sqN v k))) (lim (sqN v k)) rfl rfl HC0.out rfl rfl ?_)
        go_roundw
        case rel => exact ⟨k + 1, by omega, by go_num, ls_row HC0.out, blk_row HC1.out (by omega), below_setRow HCB.out (Nat.le_refl _) _⟩
        case measure => simp [intOf] <;> omega
      · obtain rfl : k = n := by omega
        go_wp2_with (first | (refine load27 rfl _ rfl w.heap.size (lim (sqN v k)) rfl HB0.out rfl ?_) | (refine store27 rfl _ _ rfl (w.heap.size + 1) (lim (sqN v k)) [0, 0, 0, 0] rfl rfl HB1.out rfl rfl ?_))
        refine ret27 rfl (w.heap.size + 1) (lim (sqN v k)) rfl (ls_row HB1.out) rfl rfl ?_
        exact ⟨rfl, below_setRow HB.out (by omega) _⟩

set_option maxHeartbeats 1000000 in
theorem same_any (v u : Int) (h : 0 ≤ v ∧ v < BB) (k : 0 ≤ u ∧ u < BB) (w : World) :
    Calls Try.prog 38 #[.agg (E v), .agg (E u)] w fun e w' => e = .returned (.bool (decide (v % PP = u % PP))) ∧ Below w.heap.size w w' := by
  have HV := Lib.hid h
  have HU := Lib.hid k
  have heq : decide (lim (v % PP) = lim (u % PP)) = decide (v % PP = u % PP) := by
    rw [decide_eq_decide]
    constructor
    · intro e
      have := congrArg val e
      rwa [val_lim _ (by unfold PP; omega) (by unfold PP BB; omega), val_lim _ (by unfold PP; omega) (by unfold PP BB; omega)] at this
    · intro e; rw [e]
  have HEQ := Lib.hid heq
  clear h k heq
  go_enter Try.func38, Try.ntmps38
  go_upto_region 0 with fail
  go_cut [2, 3] (fun s1 s2 wx => s1 = .pointer (some ⟨w.heap.size, 0, none⟩) ∧ s2 = .pointer (some ⟨w.heap.size + 1, 0, none⟩) ∧ HS w [(w.heap.size, lim v), (w.heap.size + 1, lim u)] [] wx)
  case first =>
    go_wp2_with fail
    go_meet
    refine ⟨rfl, rfl, ((Below.refl w.heap.size w).alloc (Nat.le_refl _) _).alloc (by simp) _, fun x hx => ?_, fun g hg => by cases hg⟩
    simp only [List.mem_cons, List.not_mem_nil, or_false] at hx
    rcases hx with rfl | rfl
    · exact ⟨Nat.le_refl _, heap_alloc2_old w _ _⟩
    · exact ⟨by dsimp only; omega, heap_alloc2_new w _ _⟩
  case rest =>
    obtain ⟨rfl, rfl, hS⟩ := hcut
    have HSH := Lib.hid hS
    clear hS
    go_wp2_with fail
    refine wp_region_held_drew (S := HS w [(w.heap.size, lim v), (w.heap.size + 1, lim u)] []) (by kernel_rfl) HSH.out.drew (fun hst => ?_)
    refine wpAnyH_take (i := 0) (oi := { dst := some 5, op := Op.load 27 (Operand.tmp 2), type := 27, pos := "field.go:143", after := #[], guard := none }) (v := .agg (Ls (lim v))) rfl (by kernel_rfl) (by kernel_rfl) (by kernel_rfl) (fun _ _ _ h => h) (yload (by rfl) _ rfl w.heap.size (lim v) rfl (by simp) rfl) hst ?_
    simp only [Act.put, List.setIfInBounds_toArray, List.set_cons_zero, List.set_cons_succ]
    refine wpAnyH_take (i := 2) (oi := { dst := some 7, op := Op.load 27 (Operand.tmp 3), type := 27, pos := "field.go:143", after := #[], guard := none }) (v := .agg (Ls (lim u))) rfl (by kernel_rfl) (by kernel_rfl) (by kernel_rfl) (fun _ _ _ h => h) (yload (by rfl) _ rfl (w.heap.size + 1) (lim u) rfl (by simp) rfl) hst ?_
    simp only [Act.put, List.setIfInBounds_toArray, List.set_cons_zero, List.set_cons_succ]
    refine wpAnyH_ready (rs := [1]) (by kernel_rfl) (by simp) ?_
    refine AllReadyH.cons (o := { dst := some 6, op := Op.call { callee := Callee.value (Operand.func 58), args := #[Operand.tmp 5], argTypes := #[27] }, type := 27, pos := "field.go:143", after := #[{ on := 0, ground := Ground.data }], guard := none }) rfl (fun K hK => ?_) ?_
    · go_simp
      refine (rest_any v HV.out.1 HV.out.2 _).mono ?_
      rintro e w2 ⟨rfl, b2⟩
      refine hK.out _ _ (hst.call b2) (fun hs2 => ?_)
      clear hK K
      refine wpAnyH_ready (rs := [3]) (by kernel_rfl) (by simp) ?_
      refine AllReadyH.cons (o := { dst := some 8, op := Op.call { callee := Callee.value (Operand.func 58), args := #[Operand.tmp 7], argTypes := #[27] }, type := 27, pos := "field.go:143", after := #[{ on := 2, ground := Ground.data }, { on := 1, ground := Ground.chain }], guard := none }) rfl (fun K hK => ?_) ?_
      · go_simp
        refine (rest_any u HU.out.1 HU.out.2 _).mono ?_
        rintro e w3 ⟨rfl, b3⟩
        refine hK.out _ _ (hs2.call b3) (fun hs3 => ?_)
        clear hK K
        refine wpAnyH_take (i := 4) (oi := { dst := some 9, op := Op.binOp BinOp.eql 27 (Operand.tmp 6) (Operand.tmp 8) 27, type := 4, pos := "field.go:143", after := #[{ on := 1, ground := Ground.data }, { on := 3, ground := Ground.data }], guard := none }) (v := .bool (decide (v % PP = u % PP))) rfl (by kernel_rfl) (by kernel_rfl) (by kernel_rfl) (fun _ _ _ h => h) (Or.inl ⟨by rfl, fun w' _ => ?_⟩) hs3 ?_
        · have h := eqlLs (lim (v % PP)) (lim (u % PP)) rfl rfl w'
          rw [HEQ.out] at h
          exact eql_step h (by kernel_rfl) rfl rfl
        simp only [Act.put, List.setIfInBounds_toArray, List.set_cons_zero, List.set_cons_succ]
        refine wpAnyH_take (i := 5) (oi := { dst := some 4, op := Op.assign (Operand.tmp 9), type := 4, pos := "field.go:143", after := #[{ on := 4, ground := Ground.data }, { on := 3, ground := Ground.chain }, { on := 0, ground := Ground.phase }, { on := 1, ground := Ground.phase }, { on := 2, ground := Ground.phase }, { on := 3, ground := Ground.phase }, { on := 4, ground := Ground.phase }], guard := none }) (v := .bool (decide (v % PP = u % PP))) rfl (by kernel_rfl) (by kernel_rfl) (by kernel_rfl) (fun _ _ _ h => h) (Or.inl ⟨by rfl, fun w' _ => by rfl⟩) hs3 ?_
        simp only [Act.put, List.setIfInBounds_toArray, List.set_cons_zero, List.set_cons_succ]
        refine wpAnyH_done (by kernel_rfl) ?_ _
        go_wp2_with fail
        go_ret
        exact ⟨rfl, hs3.below⟩
      exact AllReadyH.nil
    exact AllReadyH.nil

end Go.Proofs.Ytfklojheogidpaa
