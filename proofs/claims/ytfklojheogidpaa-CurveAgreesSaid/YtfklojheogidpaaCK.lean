import Derived.Test.YtfklojheogidpaaSub
import Derived.Test.YtfklojheogidpaaInvert
import Derived.Test.YtfklojheogidpaaEnc
import Derived.Test.YtfklojheogidpaaDec
import Derived.Test.YtfklojheogidpaaLaw3
import Derived.Deep.MidRow
set_option linter.unusedVariables false
set_option linter.unusedSimpArgs false
namespace Go.Proofs.Ytfklojheogidpaa
open Go.RowKit Go.Proofs.YtfklojheogidpaaW.PrintWords Go.Proofs.YtfklojheogidpaaW.PrintLast Go.Proofs.YtfklojheogidpaaW.PrintMore
structure LS (W0 : World) (fs : List (Nat × List Int × TypeId)) (w : World) : Prop where
  below : Below W0.heap.size W0 w
  facts : ∀ x ∈ fs, W0.heap.size ≤ x.1 ∧ w.heap[x.1]? = some (.cells (Ls x.2.1) x.2.2 (0, 0))
theorem LS.drew {W0 : World} {fs : List (Nat × List Int × TypeId)} {w : World} (h : LS W0 fs w) : LS W0 fs w.drew := ⟨h.below.drew, h.facts⟩
theorem LS.call {W0 : World} {fs : List (Nat × List Int × TypeId)} {w w' : World} (h : LS W0 fs w) (hb : Below w.heap.size w w') : LS W0 fs w' :=
  ⟨h.below.trans (hb.mono h.below.size), fun x hx => ⟨(h.facts x hx).1, (hb.block _ (blk_lt (h.facts x hx).2)).trans (h.facts x hx).2⟩⟩
theorem LS.get {W0 : World} {fs : List (Nat × List Int × TypeId)} {w : World} (h : LS W0 fs w) (b : Nat) (l : List Int) (t : TypeId) (hm : (b, l, t) ∈ fs) : w.heap[b]? = some (.cells (Ls l) t (0, 0)) := (h.facts _ hm).2
theorem LS.add {W0 : World} {fs : List (Nat × List Int × TypeId)} {w : World} (h : LS W0 fs w) {b : Nat} {l : List Int} {t : TypeId} (hb : W0.heap.size ≤ b) (hf : w.heap[b]? = some (.cells (Ls l) t (0, 0))) : LS W0 ((b, l, t) :: fs) w :=
  ⟨h.below, fun x hx => by
    rcases List.mem_cons.1 hx with rfl | hx
    · exact ⟨hb, hf⟩
    · exact h.facts x hx⟩
theorem LS.new {W0 : World} {fs : List (Nat × List Int × TypeId)} {w : World} (h : LS W0 fs w) : (w.alloc (.cells (Ls [0, 0, 0, 0]) 27)).heap[w.heap.size]? = some (.cells (Ls [0, 0, 0, 0]) 27 (0, 0)) := heap_alloc_new w _
theorem LS.put {W0 : World} {fs : List (Nat × List Int × TypeId)} {w : World} (h : LS W0 fs w) (l : List Int) : LS W0 ((w.heap.size, l, 27) :: fs) ((w.alloc (.cells (Ls [0, 0, 0, 0]) 27)).setRow w.heap.size (Ls l)) := by
  have hb : Below w.heap.size w ((w.alloc (.cells (Ls [0, 0, 0, 0]) 27)).setRow w.heap.size (Ls l)) := below_setRow ((Below.refl w.heap.size w).alloc (Nat.le_refl _) _) (Nat.le_refl _) _
  exact (h.call hb).add h.below.size (ls_row h.new)
theorem put_below (w : World) (l : List Int) : Below w.heap.size w ((w.alloc (.cells (Ls [0, 0, 0, 0]) 27)).setRow w.heap.size (Ls l)) := below_setRow ((Below.refl w.heap.size w).alloc (Nat.le_refl _) _) (Nat.le_refl _) _
theorem LS.one {w : World} (l : List Int) : LS w [(w.heap.size, l, 24)] (w.alloc (.cells (Ls l) 24)) :=
  ⟨(Below.refl w.heap.size w).alloc (Nat.le_refl _) _, fun x hx => by
    simp only [List.mem_cons, List.not_mem_nil, or_false] at hx
    subst hx
    exact ⟨Nat.le_refl _, heap_alloc_new w _⟩⟩
theorem LS.two {w : World} (l m : List Int) : LS w [(w.heap.size, l, 24), (w.heap.size + 1, m, 24)] ((w.alloc (.cells (Ls l) 24)).alloc (.cells (Ls m) 24)) :=
  ⟨((Below.refl w.heap.size w).alloc (Nat.le_refl _) _).alloc (by simp) _, fun x hx => by
    simp only [List.mem_cons, List.not_mem_nil, or_false] at hx
    rcases hx with rfl | rfl
    · exact ⟨Nat.le_refl _, heap_alloc2_old w _ _⟩
    · exact ⟨by dsimp only; omega, heap_alloc2_new w _ _⟩⟩
theorem LS.three {w : World} (l m n : List Int) : LS w [(w.heap.size, l, 24), (w.heap.size + 1, m, 24), (w.heap.size + 1 + 1, n, 24)] (((w.alloc (.cells (Ls l) 24)).alloc (.cells (Ls m) 24)).alloc (.cells (Ls n) 24)) :=
  ⟨(((Below.refl _ _).alloc (Nat.le_refl _) _).alloc (by simp) _).alloc (by simp; omega) _, fun x hx => by
    simp only [List.mem_cons, List.not_mem_nil, or_false] at hx
    rcases hx with rfl | rfl | rfl
    · exact ⟨Nat.le_refl _, heap_alloc3_0 w _ _ _⟩
    · exact ⟨by dsimp only; omega, heap_alloc3_1 w _ _ _⟩
    · exact ⟨by dsimp only; omega, heap_alloc3_2 w _ _ _⟩⟩
theorem info24 : (Try.prog.info? 24).map (·.size) = some 4 := by kernel_rfl
theorem load24 {ops : Array Oper} {rest : List Oper} {o : Oper} {a : Act} {w : World} {Q : Exit → Act → World → Prop} (hgd : o.guard = none) (x : Operand) (ho : o.op = .load 24 x) (g : Nat) (l : List Int) (hx : a.eval x = .pointer (some ⟨g, 0, none⟩)) (hg : w.heap[g]? = some (.cells (Ls l) 24 (0, 0))) (hl : l.length = 4)
    (h : wpList Try.prog ops Q rest (a.put o.dst (.agg (Ls l))) w) : wpList Try.prog ops Q (o :: rest) a w :=
  wpList_load_row hgd 24 x ho g hx 24 (Ls l) (0, 0) _ hg Try.underlying24 rfl (by rw [Ls_size, hl]; exact info24) h
theorem lload24 {ops : Array Oper} {W0 : World} {fs : List (Nat × List Int × TypeId)} {op : Oper} {a : Act} (hw : Region.wanted op (yielded ops a.tmps) = true) (x : Operand) (ho : op.op = .load 24 x)
    (b : Nat) (l : List Int) (hx : a.eval x = .pointer (some ⟨b, 0, none⟩)) (hm : (b, l, 24) ∈ fs) (hl : l.length = 4) : YieldsIf Try.prog ops (LS W0 fs) op (.agg (Ls l)) a :=
  .inl ⟨hw, fun w hS => by
    unfold execOp
    simp only [ho, hx, Instr.loadAt, Instr.sureAddr, Sem.run_bind, Sem.run_pure, Result.andThen_ok, run_loadVar_row w b 24 24 (Ls l) (0, 0) _ (hS.get b l 24 hm) Try.underlying24 rfl (by rw [Ls_size, hl]; exact info24)]⟩
theorem lload27 {ops : Array Oper} {W0 : World} {fs : List (Nat × List Int × TypeId)} {op : Oper} {a : Act} (hw : Region.wanted op (yielded ops a.tmps) = true) (x : Operand) (ho : op.op = .load 27 x)
    (b : Nat) (l : List Int) (hx : a.eval x = .pointer (some ⟨b, 0, none⟩)) (hm : (b, l, 27) ∈ fs) (hl : l.length = 4) : YieldsIf Try.prog ops (LS W0 fs) op (.agg (Ls l)) a :=
  .inl ⟨hw, fun w hS => by
    unfold execOp
    simp only [ho, hx, Instr.loadAt, Instr.sureAddr, Sem.run_bind, Sem.run_pure, Result.andThen_ok, run_loadVar_row w b 27 27 (Ls l) (0, 0) _ (hS.get b l 27 hm) Try.underlying27 rfl (by rw [Ls_size, hl]; exact info27)]⟩
theorem arr_E (l : List Int) (hl : l.length = 4) (hw : ∀ x ∈ l, 0 ≤ x ∧ x ≤ 18446744073709551615) : ∃ v : Int, (0 ≤ v ∧ v < BB) ∧ (nums .u64 l).toArray = Ls (lim v) := by
  have h : ∀ x ∈ l, Word x := fun x hx => ⟨(hw x hx).1, by have := (hw x hx).2; omega⟩
  refine ⟨val l, val_range l hl h, ?_⟩
  rw [lim_val l hl h]
  rfl
def R (x a : Int) : Prop := x % PP = a % PP
theorem R.refl (x : Int) : R x x := rfl
theorem R.same {x y a b : Int} (hx : R x a) (hy : R y b) (h : a = b) : x % PP = y % PP := by unfold R at *; rw [hx, hy, h]
theorem carV_R (v c : Int) : R (carV v c) (v + c) := by
  unfold R carV BB PP
  split <;> omega
theorem fold_R (n : Int) : R (n % BB + 38 * (n / BB)) n := by
  unfold R BB PP
  omega
theorem R.trans {x y z : Int} (h : R x y) (k : R y z) : R x z := Eq.trans h k
theorem addV_R (v u : Int) : R (addV v u) (v + u) := (carV_R _ _).trans (fold_R _)
theorem timesV_R (v n : Int) : R (timesV v n) (v * n) := (carV_R _ _).trans (fold_R _)
theorem R.add {x y a b : Int} (h : R x a) (k : R y b) : R (x + y) (a + b) := by
  unfold R at *
  rw [Int.add_emod, h, k, ← Int.add_emod]
theorem R.mul {x y a b : Int} (h : R x a) (k : R y b) : R (x * y) (a * b) := by
  unfold R at *
  rw [Int.mul_emod, h, k, ← Int.mul_emod]
theorem R.sub {x y a b : Int} (h : R x a) (k : R y b) : R (x - y) (a - b) := by
  unfold R at *
  rw [Int.sub_emod, h, k, ← Int.sub_emod]
theorem mulV_R (v u : Int) : R (mulV v u) (v * u) := by
  have h := (addV_R ((v * u) % BB) (timesV ((v * u) / BB) 38)).trans ((R.refl ((v * u) % BB)).add (timesV_R ((v * u) / BB) 38))
  refine h.trans ?_
  have := fold_R (v * u)
  rwa [Int.mul_comm 38] at this
theorem su_R (v c : Int) (r : Nat) : R ((su v c r).1 - (su v c r).2) (v - c) := by
  induction r with
  | zero => rfl
  | succ r ih =>
    refine R.trans ?_ ih
    simp only [su]
    generalize (su v c r).1 - (su v c r).2 = x
    have := fold_R x
    rwa [show x % BB - 38 * (-(x / BB)) = x % BB + 38 * (x / BB) by omega]
theorem subV_R (v u : Int) (hv : 0 ≤ v ∧ v < BB) (hu : 0 ≤ u ∧ u < BB) : R (subV v u) (v - u) := by
  have hs := su_start v u hv.1 hv.2 hu.1 hu.2
  have h2 := (su_ok _ _ hs.1 hs.2.1 hs.2.2 2 (Nat.le_refl _)).2.2.2 rfl
  have h := su_R ((v - u) % BB) (38 * (-((v - u) / BB))) 2
  rw [h2, Int.sub_zero] at h
  refine R.trans h ?_
  have := fold_R (v - u)
  rwa [show (v - u) % BB - 38 * (-((v - u) / BB)) = (v - u) % BB + 38 * ((v - u) / BB) by omega]
theorem subV_range (v u : Int) (hv : 0 ≤ v ∧ v < BB) (hu : 0 ≤ u ∧ u < BB) : 0 ≤ subV v u ∧ subV v u < BB := by
  have hs := su_start v u hv.1 hv.2 hu.1 hu.2
  have h2 := su_ok _ _ hs.1 hs.2.1 hs.2.2 2 (Nat.le_refl _)
  exact ⟨h2.1, h2.2.1⟩
structure N (x a : Int) : Prop where
  r : 0 ≤ x ∧ x < BB
  m : R x a
theorem N.of {v : Int} (h : 0 ≤ v ∧ v < BB) : N v v := ⟨h, rfl⟩
theorem N.add {x y a b : Int} (h : N x a) (k : N y b) : N (addV x y) (a + b) := ⟨addV_range _ _ h.r.1 h.r.2 k.r.1 k.r.2, (addV_R _ _).trans (h.m.add k.m)⟩
theorem N.sub {x y a b : Int} (h : N x a) (k : N y b) : N (subV x y) (a - b) := ⟨subV_range _ _ h.r k.r, (subV_R _ _ h.r k.r).trans (h.m.sub k.m)⟩
theorem N.mul {x y a b : Int} (h : N x a) (k : N y b) : N (mulV x y) (a * b) := ⟨mulV_range _ _ h.r.1 h.r.2 k.r.1 k.r.2, (mulV_R _ _).trans (h.m.mul k.m)⟩
theorem N.times {x a n : Int} (h : N x a) (h0 : 0 ≤ n) (h1 : n < 4294967296) : N (timesV x n) (a * n) := ⟨timesV_range _ _ h.r.1 h.r.2 h0 h1, (timesV_R _ _).trans (h.m.mul (R.refl n))⟩
theorem N.zero : N 0 0 := N.of ⟨by omega, by unfold BB; omega⟩
theorem N.sq {x a : Int} (h : N x a) (k : Nat) : N (sqN x k) (a ^ (2 ^ k)) := by
  induction k with
  | zero =>
    show N x (a ^ 1)
    rw [Int.pow_succ, Int.pow_zero, Int.one_mul]
    exact h
  | succ k ih =>
    have := ih.mul ih
    rw [← Int.pow_add, show 2 ^ k + 2 ^ k = 2 ^ (k + 1) by rw [Nat.pow_succ]; omega] at this
    exact this
theorem N.inv {x a : Int} (h : N x a) : N (invV x) (a ^ E0) := by
  have k2 : N (mulV x x) (a ^ 2) := by have := h.mul h; rwa [show a * a = a ^ 2 by rw [Int.pow_succ, Int.pow_succ, Int.pow_zero, Int.one_mul]] at this
  have k9 : N (inv9 x) (a ^ 9) := by have := (k2.sq 2).mul h; rwa [← Int.pow_mul, ← Int.pow_succ] at this
  have k11 : N (inv11 x) (a ^ 11) := by have := k9.mul k2; rwa [← Int.pow_add] at this
  have k5 : N (invX5 x) (a ^ (2 ^ 5 - 1)) := by have := (k11.mul k11).mul k9; rwa [← Int.pow_add, ← Int.pow_add] at this
  have k10 : N (invX10 x) (a ^ (2 ^ 10 - 1)) := by have := (k5.sq 5).mul k5; rwa [← Int.pow_mul, ← Int.pow_add] at this
  have k20 : N (invX20 x) (a ^ (2 ^ 20 - 1)) := by have := (k10.sq 10).mul k10; rwa [← Int.pow_mul, ← Int.pow_add] at this
  have k40 : N (invX40 x) (a ^ (2 ^ 40 - 1)) := by have := (k20.sq 20).mul k20; rwa [← Int.pow_mul, ← Int.pow_add] at this
  have k50 : N (invX50 x) (a ^ (2 ^ 50 - 1)) := by have := (k40.sq 10).mul k10; rwa [← Int.pow_mul, ← Int.pow_add] at this
  have k100 : N (invX100 x) (a ^ (2 ^ 100 - 1)) := by have := (k50.sq 50).mul k50; rwa [← Int.pow_mul, ← Int.pow_add] at this
  have k200 : N (invX200 x) (a ^ (2 ^ 200 - 1)) := by have := (k100.sq 100).mul k100; rwa [← Int.pow_mul, ← Int.pow_add] at this
  have k250 : N (invX250 x) (a ^ (2 ^ 250 - 1)) := by have := (k200.sq 50).mul k50; rwa [← Int.pow_mul, ← Int.pow_add] at this
  have := (k250.sq 5).mul k11
  rwa [← Int.pow_mul, ← Int.pow_add] at this
theorem cAdd {x y a b : Int} (h : N x a) (k : N y b) (w : World) : Calls Try.prog 25 #[.agg (Ls (lim x)), .agg (Ls (lim y))] w fun e w' => e = .returned (.agg (Ls (lim (addV x y)))) ∧ Below w.heap.size w w' := add_any x y h.r.1 h.r.2 k.r.1 k.r.2 w
theorem cSub {x y a b : Int} (h : N x a) (k : N y b) (w : World) : Calls Try.prog 27 #[.agg (Ls (lim x)), .agg (Ls (lim y))] w fun e w' => e = .returned (.agg (Ls (lim (subV x y)))) ∧ Below w.heap.size w w' := sub_any x y h.r.1 h.r.2 k.r.1 k.r.2 w
theorem cMul {x y a b : Int} (h : N x a) (k : N y b) (w : World) : Calls Try.prog 29 #[.agg (Ls (lim x)), .agg (Ls (lim y))] w fun e w' => e = .returned (.agg (Ls (lim (mulV x y)))) ∧ Below w.heap.size w w' := mul_any x y h.r.1 h.r.2 k.r.1 k.r.2 w
theorem cSquare {x a : Int} (h : N x a) (w : World) : Calls Try.prog 33 #[.agg (Ls (lim x))] w fun e w' => e = .returned (.agg (Ls (lim (mulV x x)))) ∧ Below w.heap.size w w' := square_any x h.r w
theorem cInvert {x a : Int} (h : N x a) (w : World) : Calls Try.prog 34 #[.agg (Ls (lim x))] w fun e w' => e = .returned (.agg (Ls (lim (invV x)))) ∧ Below w.heap.size w w' := invert_any x h.r w
theorem cTimes {x a : Int} (h : N x a) (n : Int) (h0 : 0 ≤ n) (h1 : n < 4294967296) (w : World) : Calls Try.prog 31 #[.agg (Ls (lim x)), .int .u32 n] w fun e w' => e = .returned (.agg (Ls (lim (timesV x n)))) ∧ Below w.heap.size w w' := times_any x n h.r.1 h.r.2 h0 h1 w
def Sl (w : World) (A : Option Addr) (c : Nat) (u : Int) : Prop := Kd.C (Kd.int .i64) w A 32 (D u) ∧ 32 ≤ c
theorem Sl.below {w w' : World} {A : Option Addr} {c : Nat} {u : Int} (h : Sl w A c u) (hb : Below w.heap.size w w') : Sl w' A c u := ⟨Kd.C_below h.1 hb, h.2⟩
theorem Sl.drew {w : World} {A : Option Addr} {c : Nat} {u : Int} (h : Sl w A c u) : Sl w.drew A c u := h.below (Below.refl _ _).drew
theorem sl_of {e : Ending} {B : Nat} {w w' : World} {u : Int} (h : ∃ v0_ : Value, e = .returned v0_ ∧ Kd.R (Kd.int .i64) 3 w' B (fun _ => True) v0_ (D u) ∧ Below w.heap.size w w') : ∃ A' c', e = .returned (.slice A' 32 c') ∧ Sl w' A' c' u ∧ Below w.heap.size w w' := by
  obtain ⟨v0, rfl, ho, hb⟩ := h
  obtain ⟨A, c, ec⟩ := Kd.R_slice ho
  subst ec
  have h2 := (Kd.R_reads' ho).2
  rw [D_length] at h2
  exact ⟨A, c, by rw [D_length], ⟨h2.2, h2.1⟩, hb⟩
theorem rAdd (v u : Int) {A B : Option Addr} {c d : Nat} (w : World) (hA : Sl w A c v) (hB : Sl w B d u) :
    Calls Try.prog 26 #[.slice A 32 c, .slice B 32 d] w fun e w' => ∃ A' c', e = .returned (.slice A' 32 c') ∧ Sl w' A' c' (v + u) ∧ Below w.heap.size w w' := by
  obtain ⟨k, hk⟩ := Add_ok v u
  have := Ref.redanref05_Add.calls k A c (D v) B d (D u) (D (v + u)) w (by rw [D_length]; exact hA.1) (by rw [D_length]; exact hA.2) (by rw [D_length]; exact hB.1) (by rw [D_length]; exact hB.2) (hk k (Nat.le_refl _))
  rw [D_length, D_length] at this
  exact this.mono (fun e w' h => sl_of h)
theorem rSub (v u : Int) {A B : Option Addr} {c d : Nat} (w : World) (hA : Sl w A c v) (hB : Sl w B d u) :
    Calls Try.prog 28 #[.slice A 32 c, .slice B 32 d] w fun e w' => ∃ A' c', e = .returned (.slice A' 32 c') ∧ Sl w' A' c' (v - u) ∧ Below w.heap.size w w' := by
  obtain ⟨k, hk⟩ := Sub_ok v u
  have := Ref.redanref05_Sub.calls k A c (D v) B d (D u) (D (v - u)) w (by rw [D_length]; exact hA.1) (by rw [D_length]; exact hA.2) (by rw [D_length]; exact hB.1) (by rw [D_length]; exact hB.2) (hk k (Nat.le_refl _))
  rw [D_length, D_length] at this
  exact this.mono (fun e w' h => sl_of h)
theorem rMul (v u : Int) {A B : Option Addr} {c d : Nat} (w : World) (hA : Sl w A c v) (hB : Sl w B d u) :
    Calls Try.prog 30 #[.slice A 32 c, .slice B 32 d] w fun e w' => ∃ A' c', e = .returned (.slice A' 32 c') ∧ Sl w' A' c' (v * u) ∧ Below w.heap.size w w' := by
  obtain ⟨k, hk⟩ := Mul_ok v u
  have := Ref.redanref05_Mul.calls k A c (D v) B d (D u) (D (v * u)) w (by rw [D_length]; exact hA.1) (by rw [D_length]; exact hA.2) (by rw [D_length]; exact hB.1) (by rw [D_length]; exact hB.2) (hk k (Nat.le_refl _))
  rw [D_length, D_length] at this
  exact this.mono (fun e w' h => sl_of h)
theorem rSmall (n : Int) (h0 : 0 ≤ n) (h1 : n ≤ 1099511627776) (w : World) :
    Calls Try.prog 32 #[.int .i64 n] w fun e w' => ∃ A' c', e = .returned (.slice A' 32 c') ∧ Sl w' A' c' n ∧ Below w.heap.size w w' := by
  obtain ⟨k, hk⟩ := Small_ok n h0 h1
  exact (Ref.redanref05_Small.calls k n (D n) w (hk k (Nat.le_refl _))).mono (fun e w' h => sl_of h)
theorem rPower (v : Int) {A : Option Addr} {c : Nat} (w : World) (hA : Sl w A c v) :
    Calls Try.prog 36 #[.slice A 32 c] w fun e w' => ∃ A' c', e = .returned (.slice A' 32 c') ∧ Sl w' A' c' (v ^ E0) ∧ Below w.heap.size w w' := by
  obtain ⟨k, hk⟩ := Power_ok v
  have := Ref.redanref05_Power.calls k A c (D v) (D (v ^ E0)) w (by rw [D_length]; exact hA.1) (by rw [D_length]; exact hA.2) (hk k (Nat.le_refl _))
  rw [D_length] at this
  exact this.mono (fun e w' h => sl_of h)
theorem rDecode (l : List Int) (hl : ∀ x ∈ l, Byte x) {A : Option Addr} {c : Nat} (w : World) (hA : Kd.C (Kd.int .u8) w A l.length l) (hc : l.length ≤ c) :
    Calls Try.prog 23 #[.slice A l.length c] w fun e w' => ∃ A' c', e = .returned (.slice A' 32 c') ∧ Sl w' A' c' (decV l) ∧ Below w.heap.size w w' := by
  obtain ⟨k, hk⟩ := Decode_ok l hl
  exact (Ref.redanref05_Decode.calls k A c l (D (decV l)) w hA hc (hk k (Nat.le_refl _))).mono (fun e w' h => sl_of h)
theorem R.pow {x a : Int} (h : R x a) (k : Nat) : R (x ^ k) (a ^ k) := by
  induction k with
  | zero => rw [Int.pow_zero, Int.pow_zero]; exact R.refl 1
  | succ k ih => rw [Int.pow_succ, Int.pow_succ]; exact ih.mul h
theorem N.dec' (l : List Int) : 0 ≤ decV l ∧ decV l < BB := ⟨(decV_range l).1, by have := (decV_range l).2; unfold HH at this; unfold BB; omega⟩
theorem LS.alloc {W0 : World} {fs : List (Nat × List Int × TypeId)} {w : World} (h : LS W0 fs w) (o : Obj) : LS W0 fs (w.alloc o) := h.call (below_alloc (Below.refl _ _) o)
theorem LS.fresh {W0 : World} {fs : List (Nat × List Int × TypeId)} {w : World} (h : LS W0 fs w) : ∀ x ∈ fs, x.1 ≠ w.heap.size := fun x hx e => by
  have := blk_lt (h.facts x hx).2
  omega
theorem LS.row {W0 : World} {fs : List (Nat × List Int × TypeId)} {w : World} (h : LS W0 fs w) (g : Nat) (hg : W0.heap.size ≤ g) (hn : ∀ x ∈ fs, x.1 ≠ g) (l : List Int) : LS W0 fs (w.setRow g (Ls l)) :=
  ⟨below_setRow h.below hg _, fun x hx => ⟨(h.facts x hx).1, blk_row (h.facts x hx).2 (hn x hx)⟩⟩
theorem row_below {w0 w : World} {g : Nat} (hb : Below w0.heap.size w0 w) (hg : w0.heap.size ≤ g) (l : List Int) : Below w0.heap.size w0 (w.setRow g (Ls l)) := below_setRow hb hg _
theorem D_decV (x : Int) : decV (D x) = x % PP := by
  unfold decV pad32
  rw [List.take_append_of_le_length (by rw [D_length]; omega), List.take_of_length_le (by rw [D_length]; omega), D_val]
  unfold HH PP
  omega
theorem N.decD {x a : Int} (h : N x a) : N (decV (D x)) a := ⟨(N.dec' (D x)), by rw [D_decV]; unfold R; rw [Int.emod_emod_of_dvd _ (Int.dvd_refl _)]; exact h.m⟩
theorem cEncode {x a : Int} (h : N x a) (w : World) : Calls Try.prog 39 #[.agg (Ls (lim x))] w fun e w' => ∃ A' c', e = .returned (.slice A' 32 c') ∧ Kd.C (Kd.int .u8) w' A' 32 (D x) ∧ Below w.heap.size w w' := by
  refine (encode_any x h.r.1 h.r.2 w).mono ?_
  rintro e w' ⟨v0, rfl, ho, hb⟩
  obtain ⟨A, c, ec⟩ := Kd.R_slice ho
  subst ec
  exact ⟨A, c, rfl, (Kd.R_reads' ho).2.2, hb⟩
theorem cDecodeD (x : Int) {A : Option Addr} {c : Nat} (w : World) (hr : Kd.C (Kd.int .u8) w A 32 (D x)) : Calls Try.prog 22 #[.slice A 32 c] w fun e w' => e = .returned (.agg (Ls (lim (decV (D x))))) ∧ Below w.heap.size w w' := by
  have := decode_any A c (D x) (D_bytes x) w (by rw [D_length]; exact hr)
  rwa [D_length] at this
theorem N.dec (l : List Int) : N (decV l) (decV l) := N.of ⟨(decV_range l).1, by have := (decV_range l).2; unfold HH at this; unfold BB; omega⟩
theorem cDecode {A : Option Addr} {c : Nat} (l : List Int) (hl : ∀ x ∈ l, Byte x) (w : World) (hr : Kd.C (Kd.int .u8) w A l.length l) : Calls Try.prog 22 #[.slice A l.length c] w fun e w' => e = .returned (.agg (Ls (lim (decV l)))) ∧ Below w.heap.size w w' := decode_any A c l hl w hr
end Go.Proofs.Ytfklojheogidpaa
