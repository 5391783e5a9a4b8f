import Derived.Test.YtfklojheogidpaaCt
set_option linter.unusedVariables false
set_option linter.unusedSimpArgs false
namespace Go.Proofs.Ytfklojheogidpaa
open Go.RowKit Go.Proofs.YtfklojheogidpaaW.PrintWords Go.Proofs.YtfklojheogidpaaW.PrintLast Go.Proofs.YtfklojheogidpaaW.PrintMore
theorem LS.newT {W0 : World} {fs : List (Nat × List Int × TypeId)} {w : World} {t : TypeId} (h : LS W0 fs w) (cs : Array Value) : (w.alloc (.cells cs t)).heap[w.heap.size]? = some (.cells cs t (0, 0)) := heap_alloc_new w _
theorem yloadM {ops : Array Oper} {W0 : World} {fs : List (Nat × List Int × TypeId)} {op : Oper} {a : Act} (hw : Region.wanted op (yielded ops a.tmps) = true) (x : Operand) (ho : op.op = .load 27 x)
    (b off : Nat) (L l : List Int) (t : TypeId) (hx : a.eval x = .pointer (some ⟨b, off, none⟩)) (hm : (b, L, t) ∈ fs) (hl : l.length = 4) (hsel : (L.drop off).take 4 = l) : YieldsIf Try.prog ops (LS W0 fs) op (.agg (Ls l)) a :=
  .inl ⟨hw, fun w hS => by
    unfold execOp
    simp only [ho, hx, Instr.loadAt, Instr.sureAddr, Sem.run_bind, Sem.run_pure, Result.andThen_ok, run_loadVar_mid w b off 27 (nums .u64 l) _ (range_ls (hS.get b L t hm) hsel) Try.underlying27 rfl (by simp only [nums, List.length_map, hl]; exact info27)]
    rfl⟩
theorem step_store74 {ops : Array Oper} {o : Oper} {a : Act} {w : World} {K : Act → World → Prop} {Q : Exit → Act → World → Prop} {X : Prop} (hw : Region.wanted o (yielded ops a.tmps) = true) (x y : Operand) (ho : o.op = .store 74 x y)
    (g : Nat) (l l0 : List Int) (hx : a.eval x = .pointer (some ⟨g, 0, none⟩)) (hy : a.eval y = .agg (Ls l)) (hg : w.heap[g]? = some (.cells (Ls l0) 74 (0, 0))) (hl0 : l0.length = 8) (hl : l.length = 8)
    (h : K (a.put o.dst undef) (w.setRow g (Ls l))) : if Region.wanted o (yielded ops a.tmps) = true then Oper.wp Try.prog o a w K Q else X := by
  rw [if_pos hw]
  exact wp_store_row 74 x y ho g (Ls l) hx hy 74 (Ls l0) hg (by rw [Ls_size, hl]; exact info74) (by rw [Ls_size, Ls_size, hl, hl0]) (Ls_one l) h
theorem built74 (x z : Int) : Try.prog.built 74 [(0, .agg (Ls (lim x))), (1, .agg (Ls (lim z)))] = some (Ls (lim x ++ lim z)) := by kernel_rfl
theorem built76 (x z s t : Int) : Try.prog.built 76 [(0, .agg (Ls (lim x ++ lim z))), (1, .agg (Ls (lim s ++ lim t)))] = some (Ls (Q4 x z s t)) := by kernel_rfl
theorem ybuild74 {ops : Array Oper} {S : World → Prop} {op : Oper} {a : Act} (hw : Region.wanted op (yielded ops a.tmps) = true) (p q : Operand) (ho : op.op = .build 74 #[(0, p), (1, q)]) (x z : Int) (hp : a.eval p = .agg (Ls (lim x))) (hq : a.eval q = .agg (Ls (lim z))) :
    YieldsIf Try.prog ops S op (.agg (Ls (lim x ++ lim z))) a :=
  .inl ⟨hw, fun w hS => by
    unfold execOp
    simp only [ho]
    have := run_build (P := Try.prog) w 74 #[(0, .agg (Ls (lim x))), (1, .agg (Ls (lim z)))] _ (built74 x z)
    simp [hp, hq, this]⟩
section
variable {ops : Array Oper} {rest : List Oper} {o : Oper} {a : Act} {w : World} {Q : Exit → Act → World → Prop}
theorem load74 (hgd : o.guard = none) (x : Operand) (ho : o.op = .load 74 x) (g : Nat) (L : List Int) (hx : a.eval x = .pointer (some ⟨g, 0, none⟩)) (hg : w.heap[g]? = some (.cells (Ls L) 74 (0, 0))) (hl : L.length = 8)
    (h : wpList Try.prog ops Q rest (a.put o.dst (.agg (Ls L))) w) : wpList Try.prog ops Q (o :: rest) a w :=
  wpList_load_row hgd 74 x ho g hx 74 (Ls L) (0, 0) _ hg Try.underlying74 rfl (by rw [Ls_size, hl]; exact info74) h
theorem build76 (hgd : o.guard = none) (p q : Operand) (ho : o.op = .build 76 #[(0, p), (1, q)]) (x z s t : Int) (hp : a.eval p = .agg (Ls (lim x ++ lim z))) (hq : a.eval q = .agg (Ls (lim s ++ lim t)))
    (h : wpList Try.prog ops Q rest (a.put o.dst (.agg (Ls (Q4 x z s t)))) w) : wpList Try.prog ops Q (o :: rest) a w :=
  wpList_plain hgd fun _ hK => by
    have := run_build (P := Try.prog) w 76 #[(0, .agg (Ls (lim x ++ lim z))), (1, .agg (Ls (lim s ++ lim t)))] _ (built76 x z s t)
    unfold Oper.wp execOp
    simp [ho, hp, hq, this]
    exact hK _ _ h
end
/-- A block of words behind the old ones, that is not one of those told. -/
structure Bk (W0 : World) (fs : List (Nat × List Int × TypeId)) (w : World) (g : Nat) (l : List Int) (t : TypeId) : Prop where
  n : w.heap[g]? = some (.cells (Ls l) t (0, 0))
  f : ∀ y ∈ fs, y.1 ≠ g
  z : W0.heap.size ≤ g
section
variable {W0 w w' : World} {fs : List (Nat × List Int × TypeId)} {g : Nat} {l : List Int} {t : TypeId}
theorem Bk.call (h : Bk W0 fs w g l t) (hb : Below w.heap.size w w') : Bk W0 fs w' g l t := ⟨(hb.block _ (blk_lt h.n)).trans h.n, h.f, h.z⟩
theorem LS.mk' (h : LS W0 fs w) (cs : List Int) (t : TypeId) : ∃ g w', w.alloc (.cells (Ls cs) t) = w' ∧ w.heap.size = g ∧ LS W0 fs w' ∧ Bk W0 fs w' g cs t ∧ ∀ g0 l0 t0, Bk W0 fs w g0 l0 t0 → Bk W0 fs w' g0 l0 t0 ∧ g0 < g :=
  ⟨_, _, rfl, rfl, h.alloc _, ⟨heap_alloc_new w _, h.fresh, h.below.size⟩, fun g0 l0 t0 b => ⟨⟨(Below.heap_alloc _ _ _ (blk_lt b.n)).trans b.n, b.f, b.z⟩, blk_lt b.n⟩⟩
theorem LS.mk27 (h : LS W0 fs w) : ∃ g w', w.alloc (.cells #[.int .u64 0, .int .u64 0, .int .u64 0, .int .u64 0] 27) = w' ∧ w.heap.size = g ∧ LS W0 fs w' ∧ Bk W0 fs w' g [0, 0, 0, 0] 27 ∧ ∀ g0 l0 t0, Bk W0 fs w g0 l0 t0 → Bk W0 fs w' g0 l0 t0 ∧ g0 < g := h.mk' [0, 0, 0, 0] 27
theorem LS.mk74 (h : LS W0 fs w) : ∃ g w', w.alloc (.cells #[.int .u64 0, .int .u64 0, .int .u64 0, .int .u64 0, .int .u64 0, .int .u64 0, .int .u64 0, .int .u64 0] 74) = w' ∧ w.heap.size = g ∧ LS W0 fs w' ∧ Bk W0 fs w' g [0, 0, 0, 0, 0, 0, 0, 0] 74 ∧ ∀ g0 l0 t0, Bk W0 fs w g0 l0 t0 → Bk W0 fs w' g0 l0 t0 ∧ g0 < g := h.mk' [0, 0, 0, 0, 0, 0, 0, 0] 74
theorem LS.wr (h : LS W0 fs w) (b : Bk W0 fs w g l t) (m : List Int) : ∃ w', w.setRow g (Ls m) = w' ∧ LS W0 fs w' ∧ Bk W0 fs w' g m t ∧ ∀ g0 l0 t0, Bk W0 fs w g0 l0 t0 → g0 ≠ g → Bk W0 fs w' g0 l0 t0 :=
  ⟨_, rfl, h.row _ b.z b.f _, ⟨ls_row b.n, b.f, b.z⟩, fun g0 l0 t0 c hn => ⟨blk_row c.n hn, c.f, c.z⟩⟩
end
def vSum (x z : Int) : Int := addV x z
def vDiff (x z : Int) : Int := subV x z
def vA (x z : Int) : Int := mulV (addV x z) (addV x z)
def vB (x z : Int) : Int := mulV (subV x z) (subV x z)
def vE (x z : Int) : Int := subV (vA x z) (vB x z)
def vC (x z s t : Int) : Int := mulV (addV x z) (subV s t)
def vD (x z s t : Int) : Int := mulV (subV x z) (addV s t)
def vX (x z : Int) : Int := mulV (vA x z) (vB x z)
def vZ (x z : Int) : Int := mulV (vE x z) (addV (vA x z) (timesV (vE x z) 121665))
def vS (x z s t : Int) : Int := mulV (addV (vC x z s t) (vD x z s t)) (addV (vC x z s t) (vD x z s t))
def vT (u x z s t : Int) : Int := mulV u (mulV (subV (vC x z s t) (vD x z s t)) (subV (vC x z s t) (vD x z s t)))
abbrev p1_0 : Oper := { dst := some 14, op := Op.fieldAddr 76 (Operand.tmp 2) 0, type := 0, pos := "curve.go:27", after := #[], guard := none }
abbrev p1_1 : Oper := { dst := some 15, op := Op.fieldAddr 74 (Operand.tmp 14) 0, type := 0, pos := "curve.go:27", after := #[{ on := 0, ground := Ground.data }], guard := none }
abbrev p1_2 : Oper := { dst := some 16, op := Op.load 27 (Operand.tmp 15), type := 27, pos := "curve.go:27", after := #[{ on := 1, ground := Ground.data }], guard := none }
abbrev p1_3 : Oper := { dst := some 17, op := Op.fieldAddr 76 (Operand.tmp 2) 0, type := 0, pos := "curve.go:27", after := #[], guard := none }
abbrev p1_4 : Oper := { dst := some 18, op := Op.fieldAddr 74 (Operand.tmp 17) 1, type := 0, pos := "curve.go:27", after := #[{ on := 3, ground := Ground.data }], guard := none }
abbrev p1_5 : Oper := { dst := some 19, op := Op.load 27 (Operand.tmp 18), type := 27, pos := "curve.go:27", after := #[{ on := 4, ground := Ground.data }], guard := none }
abbrev p1_6 : Oper := { dst := some 20, op := Op.call { callee := Callee.value (Operand.func 25), args := #[Operand.tmp 16, Operand.tmp 19], argTypes := #[27, 27] }, type := 27, pos := "curve.go:27", after := #[{ on := 2, ground := Ground.data }, { on := 5, ground := Ground.data }], guard := none }
abbrev p1_7 : Oper := { dst := some 21, op := Op.fieldAddr 76 (Operand.tmp 2) 0, type := 0, pos := "curve.go:27", after := #[], guard := none }
abbrev p1_8 : Oper := { dst := some 22, op := Op.fieldAddr 74 (Operand.tmp 21) 0, type := 0, pos := "curve.go:27", after := #[{ on := 7, ground := Ground.data }], guard := none }
abbrev p1_9 : Oper := { dst := some 23, op := Op.load 27 (Operand.tmp 22), type := 27, pos := "curve.go:27", after := #[{ on := 8, ground := Ground.data }], guard := none }
abbrev p1_10 : Oper := { dst := some 24, op := Op.fieldAddr 76 (Operand.tmp 2) 0, type := 0, pos := "curve.go:27", after := #[], guard := none }
abbrev p1_11 : Oper := { dst := some 25, op := Op.fieldAddr 74 (Operand.tmp 24) 1, type := 0, pos := "curve.go:27", after := #[{ on := 10, ground := Ground.data }], guard := none }
abbrev p1_12 : Oper := { dst := some 26, op := Op.load 27 (Operand.tmp 25), type := 27, pos := "curve.go:27", after := #[{ on := 11, ground := Ground.data }], guard := none }
abbrev p1_13 : Oper := { dst := some 27, op := Op.call { callee := Callee.value (Operand.func 27), args := #[Operand.tmp 23, Operand.tmp 26], argTypes := #[27, 27] }, type := 27, pos := "curve.go:27", after := #[{ on := 9, ground := Ground.data }, { on := 12, ground := Ground.data }, { on := 6, ground := Ground.chain }], guard := none }
abbrev p1_14 : Oper := { dst := some 5, op := Op.alloc 27, type := 0, pos := "curve.go:27", after := #[], guard := none }
abbrev p1_15 : Oper := { dst := some 6, op := Op.alloc 27, type := 0, pos := "curve.go:27", after := #[], guard := none }
abbrev p1_16 : Oper := { dst := none, op := Op.store 27 (Operand.tmp 5) (Operand.tmp 20), type := 0, pos := "curve.go:27", after := #[{ on := 14, ground := Ground.data }, { on := 6, ground := Ground.data }, { on := 13, ground := Ground.chain }, { on := 0, ground := Ground.phase }, { on := 1, ground := Ground.phase }, { on := 2, ground := Ground.phase }, { on := 3, ground := Ground.phase }, { on := 4, ground := Ground.phase }, { on := 5, ground := Ground.phase }, { on := 6, ground := Ground.phase }, { on := 7, ground := Ground.textOnly Departure.lateStores }, { on := 8, ground := Ground.textOnly Departure.lateStores }, { on := 9, ground := Ground.textOnly Departure.lateStores }, { on := 10, ground := Ground.textOnly Departure.lateStores }, { on := 11, ground := Ground.textOnly Departure.lateStores }, { on := 12, ground := Ground.textOnly Departure.lateStores }, { on := 13, ground := Ground.textOnly Departure.lateStoresUnsure }, { on := 14, ground := Ground.phase }, { on := 15, ground := Ground.phase }], guard := none }
abbrev p1_17 : Oper := { dst := none, op := Op.store 27 (Operand.tmp 6) (Operand.tmp 27), type := 0, pos := "curve.go:27", after := #[{ on := 15, ground := Ground.data }, { on := 13, ground := Ground.data }, { on := 16, ground := Ground.chain }, { on := 0, ground := Ground.phase }, { on := 1, ground := Ground.phase }, { on := 2, ground := Ground.phase }, { on := 3, ground := Ground.phase }, { on := 4, ground := Ground.phase }, { on := 5, ground := Ground.phase }, { on := 6, ground := Ground.phase }, { on := 7, ground := Ground.phase }, { on := 8, ground := Ground.phase }, { on := 9, ground := Ground.phase }, { on := 10, ground := Ground.phase }, { on := 11, ground := Ground.phase }, { on := 12, ground := Ground.phase }, { on := 13, ground := Ground.phase }, { on := 14, ground := Ground.phase }, { on := 15, ground := Ground.phase }, { on := 16, ground := Ground.phase }], guard := none }
abbrev p2_0 : Oper := { dst := some 28, op := Op.load 27 (Operand.tmp 5), type := 27, pos := "curve.go:28", after := #[], guard := none }
abbrev p2_1 : Oper := { dst := some 29, op := Op.call { callee := Callee.value (Operand.func 33), args := #[Operand.tmp 28], argTypes := #[27] }, type := 27, pos := "curve.go:28", after := #[{ on := 0, ground := Ground.data }], guard := none }
abbrev p2_2 : Oper := { dst := some 30, op := Op.load 27 (Operand.tmp 6), type := 27, pos := "curve.go:28", after := #[], guard := none }
abbrev p2_3 : Oper := { dst := some 31, op := Op.call { callee := Callee.value (Operand.func 33), args := #[Operand.tmp 30], argTypes := #[27] }, type := 27, pos := "curve.go:28", after := #[{ on := 2, ground := Ground.data }, { on := 1, ground := Ground.chain }], guard := none }
abbrev p2_4 : Oper := { dst := some 7, op := Op.alloc 27, type := 0, pos := "curve.go:28", after := #[], guard := none }
abbrev p2_5 : Oper := { dst := some 8, op := Op.alloc 27, type := 0, pos := "curve.go:28", after := #[], guard := none }
abbrev p2_6 : Oper := { dst := none, op := Op.store 27 (Operand.tmp 7) (Operand.tmp 29), type := 0, pos := "curve.go:28", after := #[{ on := 4, ground := Ground.data }, { on := 1, ground := Ground.data }, { on := 3, ground := Ground.chain }, { on := 0, ground := Ground.phase }, { on := 1, ground := Ground.phase }, { on := 2, ground := Ground.textOnly Departure.lateStores }, { on := 3, ground := Ground.textOnly Departure.lateStoresUnsure }, { on := 4, ground := Ground.phase }, { on := 5, ground := Ground.phase }], guard := none }
abbrev p2_7 : Oper := { dst := none, op := Op.store 27 (Operand.tmp 8) (Operand.tmp 31), type := 0, pos := "curve.go:28", after := #[{ on := 5, ground := Ground.data }, { on := 3, ground := Ground.data }, { on := 6, ground := Ground.chain }, { on := 0, ground := Ground.phase }, { on := 1, ground := Ground.phase }, { on := 2, ground := Ground.phase }, { on := 3, ground := Ground.phase }, { on := 4, ground := Ground.phase }, { on := 5, ground := Ground.phase }, { on := 6, ground := Ground.phase }], guard := none }
abbrev p4_0 : Oper := { dst := some 35, op := Op.load 27 (Operand.tmp 5), type := 27, pos := "curve.go:30", after := #[], guard := none }
abbrev p4_1 : Oper := { dst := some 36, op := Op.fieldAddr 76 (Operand.tmp 2) 1, type := 0, pos := "curve.go:30", after := #[], guard := none }
abbrev p4_2 : Oper := { dst := some 37, op := Op.fieldAddr 74 (Operand.tmp 36) 0, type := 0, pos := "curve.go:30", after := #[{ on := 1, ground := Ground.data }], guard := none }
abbrev p4_3 : Oper := { dst := some 38, op := Op.load 27 (Operand.tmp 37), type := 27, pos := "curve.go:30", after := #[{ on := 2, ground := Ground.data }], guard := none }
abbrev p4_4 : Oper := { dst := some 39, op := Op.fieldAddr 76 (Operand.tmp 2) 1, type := 0, pos := "curve.go:30", after := #[], guard := none }
abbrev p4_5 : Oper := { dst := some 40, op := Op.fieldAddr 74 (Operand.tmp 39) 1, type := 0, pos := "curve.go:30", after := #[{ on := 4, ground := Ground.data }], guard := none }
abbrev p4_6 : Oper := { dst := some 41, op := Op.load 27 (Operand.tmp 40), type := 27, pos := "curve.go:30", after := #[{ on := 5, ground := Ground.data }], guard := none }
abbrev p4_7 : Oper := { dst := some 42, op := Op.call { callee := Callee.value (Operand.func 27), args := #[Operand.tmp 38, Operand.tmp 41], argTypes := #[27, 27] }, type := 27, pos := "curve.go:30", after := #[{ on := 3, ground := Ground.data }, { on := 6, ground := Ground.data }], guard := none }
abbrev p4_8 : Oper := { dst := some 43, op := Op.call { callee := Callee.value (Operand.func 29), args := #[Operand.tmp 35, Operand.tmp 42], argTypes := #[27, 27] }, type := 27, pos := "curve.go:30", after := #[{ on := 0, ground := Ground.data }, { on := 7, ground := Ground.data }, { on := 7, ground := Ground.chain }], guard := none }
abbrev p4_9 : Oper := { dst := some 10, op := Op.alloc 27, type := 0, pos := "curve.go:30", after := #[], guard := none }
abbrev p4_10 : Oper := { dst := none, op := Op.store 27 (Operand.tmp 10) (Operand.tmp 43), type := 0, pos := "curve.go:30", after := #[{ on := 9, ground := Ground.data }, { on := 8, ground := Ground.data }, { on := 8, ground := Ground.chain }, { on := 0, ground := Ground.phase }, { on := 1, ground := Ground.phase }, { on := 2, ground := Ground.phase }, { on := 3, ground := Ground.phase }, { on := 4, ground := Ground.phase }, { on := 5, ground := Ground.phase }, { on := 6, ground := Ground.phase }, { on := 7, ground := Ground.phase }, { on := 8, ground := Ground.phase }, { on := 9, ground := Ground.phase }], guard := none }
abbrev p5_0 : Oper := { dst := some 44, op := Op.load 27 (Operand.tmp 6), type := 27, pos := "curve.go:31", after := #[], guard := none }
abbrev p5_1 : Oper := { dst := some 45, op := Op.fieldAddr 76 (Operand.tmp 2) 1, type := 0, pos := "curve.go:31", after := #[], guard := none }
abbrev p5_2 : Oper := { dst := some 46, op := Op.fieldAddr 74 (Operand.tmp 45) 0, type := 0, pos := "curve.go:31", after := #[{ on := 1, ground := Ground.data }], guard := none }
abbrev p5_3 : Oper := { dst := some 47, op := Op.load 27 (Operand.tmp 46), type := 27, pos := "curve.go:31", after := #[{ on := 2, ground := Ground.data }], guard := none }
abbrev p5_4 : Oper := { dst := some 48, op := Op.fieldAddr 76 (Operand.tmp 2) 1, type := 0, pos := "curve.go:31", after := #[], guard := none }
abbrev p5_5 : Oper := { dst := some 49, op := Op.fieldAddr 74 (Operand.tmp 48) 1, type := 0, pos := "curve.go:31", after := #[{ on := 4, ground := Ground.data }], guard := none }
abbrev p5_6 : Oper := { dst := some 50, op := Op.load 27 (Operand.tmp 49), type := 27, pos := "curve.go:31", after := #[{ on := 5, ground := Ground.data }], guard := none }
abbrev p5_7 : Oper := { dst := some 51, op := Op.call { callee := Callee.value (Operand.func 25), args := #[Operand.tmp 47, Operand.tmp 50], argTypes := #[27, 27] }, type := 27, pos := "curve.go:31", after := #[{ on := 3, ground := Ground.data }, { on := 6, ground := Ground.data }], guard := none }
abbrev p5_8 : Oper := { dst := some 52, op := Op.call { callee := Callee.value (Operand.func 29), args := #[Operand.tmp 44, Operand.tmp 51], argTypes := #[27, 27] }, type := 27, pos := "curve.go:31", after := #[{ on := 0, ground := Ground.data }, { on := 7, ground := Ground.data }, { on := 7, ground := Ground.chain }], guard := none }
abbrev p5_9 : Oper := { dst := some 11, op := Op.alloc 27, type := 0, pos := "curve.go:31", after := #[], guard := none }
abbrev p5_10 : Oper := { dst := none, op := Op.store 27 (Operand.tmp 11) (Operand.tmp 52), type := 0, pos := "curve.go:31", after := #[{ on := 9, ground := Ground.data }, { on := 8, ground := Ground.data }, { on := 8, ground := Ground.chain }, { on := 0, ground := Ground.phase }, { on := 1, ground := Ground.phase }, { on := 2, ground := Ground.phase }, { on := 3, ground := Ground.phase }, { on := 4, ground := Ground.phase }, { on := 5, ground := Ground.phase }, { on := 6, ground := Ground.phase }, { on := 7, ground := Ground.phase }, { on := 8, ground := Ground.phase }, { on := 9, ground := Ground.phase }], guard := none }
abbrev p6_0 : Oper := { dst := some 53, op := Op.load 27 (Operand.tmp 7), type := 27, pos := "curve.go:32", after := #[], guard := none }
abbrev p6_1 : Oper := { dst := some 54, op := Op.load 27 (Operand.tmp 8), type := 27, pos := "curve.go:32", after := #[], guard := none }
abbrev p6_2 : Oper := { dst := some 55, op := Op.call { callee := Callee.value (Operand.func 29), args := #[Operand.tmp 53, Operand.tmp 54], argTypes := #[27, 27] }, type := 27, pos := "curve.go:32", after := #[{ on := 0, ground := Ground.data }, { on := 1, ground := Ground.data }], guard := none }
abbrev p6_3 : Oper := { dst := some 56, op := Op.load 27 (Operand.tmp 9), type := 27, pos := "curve.go:32", after := #[], guard := none }
abbrev p6_4 : Oper := { dst := some 57, op := Op.load 27 (Operand.tmp 7), type := 27, pos := "curve.go:32", after := #[], guard := none }
abbrev p6_5 : Oper := { dst := some 58, op := Op.load 27 (Operand.tmp 9), type := 27, pos := "curve.go:32", after := #[], guard := none }
abbrev p6_6 : Oper := { dst := some 59, op := Op.call { callee := Callee.value (Operand.func 31), args := #[Operand.tmp 58, Operand.const (Value.int IntKind.u32 121665)], argTypes := #[27, 36] }, type := 27, pos := "curve.go:32", after := #[{ on := 5, ground := Ground.data }, { on := 2, ground := Ground.chain }], guard := none }
abbrev p6_7 : Oper := { dst := some 60, op := Op.call { callee := Callee.value (Operand.func 25), args := #[Operand.tmp 57, Operand.tmp 59], argTypes := #[27, 27] }, type := 27, pos := "curve.go:32", after := #[{ on := 4, ground := Ground.data }, { on := 6, ground := Ground.data }, { on := 6, ground := Ground.chain }], guard := none }
abbrev p6_8 : Oper := { dst := some 61, op := Op.call { callee := Callee.value (Operand.func 29), args := #[Operand.tmp 56, Operand.tmp 60], argTypes := #[27, 27] }, type := 27, pos := "curve.go:32", after := #[{ on := 3, ground := Ground.data }, { on := 7, ground := Ground.data }, { on := 7, ground := Ground.chain }], guard := none }
abbrev p6_9 : Oper := { dst := some 62, op := Op.build 74 #[(0, Operand.tmp 55), (1, Operand.tmp 61)], type := 74, pos := "curve.go:32", after := #[{ on := 2, ground := Ground.data }, { on := 8, ground := Ground.data }], guard := none }
abbrev p6_10 : Oper := { dst := some 12, op := Op.alloc 74, type := 0, pos := "curve.go:32", after := #[], guard := none }
abbrev p6_11 : Oper := { dst := none, op := Op.store 74 (Operand.tmp 12) (Operand.tmp 62), type := 0, pos := "curve.go:32", after := #[{ on := 10, ground := Ground.data }, { on := 9, ground := Ground.data }, { on := 8, ground := Ground.chain }, { on := 0, ground := Ground.phase }, { on := 1, ground := Ground.phase }, { on := 2, ground := Ground.phase }, { on := 3, ground := Ground.phase }, { on := 4, ground := Ground.phase }, { on := 5, ground := Ground.phase }, { on := 6, ground := Ground.phase }, { on := 7, ground := Ground.phase }, { on := 8, ground := Ground.phase }, { on := 9, ground := Ground.phase }, { on := 10, ground := Ground.phase }], guard := none }
abbrev p7_0 : Oper := { dst := some 63, op := Op.load 27 (Operand.tmp 10), type := 27, pos := "curve.go:33", after := #[], guard := none }
abbrev p7_1 : Oper := { dst := some 64, op := Op.load 27 (Operand.tmp 11), type := 27, pos := "curve.go:33", after := #[], guard := none }
abbrev p7_2 : Oper := { dst := some 65, op := Op.call { callee := Callee.value (Operand.func 25), args := #[Operand.tmp 63, Operand.tmp 64], argTypes := #[27, 27] }, type := 27, pos := "curve.go:33", after := #[{ on := 0, ground := Ground.data }, { on := 1, ground := Ground.data }], guard := none }
abbrev p7_3 : Oper := { dst := some 66, op := Op.call { callee := Callee.value (Operand.func 33), args := #[Operand.tmp 65], argTypes := #[27] }, type := 27, pos := "curve.go:33", after := #[{ on := 2, ground := Ground.data }, { on := 2, ground := Ground.chain }], guard := none }
abbrev p7_4 : Oper := { dst := some 67, op := Op.load 27 (Operand.tmp 3), type := 27, pos := "curve.go:33", after := #[], guard := none }
abbrev p7_5 : Oper := { dst := some 68, op := Op.load 27 (Operand.tmp 10), type := 27, pos := "curve.go:33", after := #[], guard := none }
abbrev p7_6 : Oper := { dst := some 69, op := Op.load 27 (Operand.tmp 11), type := 27, pos := "curve.go:33", after := #[], guard := none }
abbrev p7_7 : Oper := { dst := some 70, op := Op.call { callee := Callee.value (Operand.func 27), args := #[Operand.tmp 68, Operand.tmp 69], argTypes := #[27, 27] }, type := 27, pos := "curve.go:33", after := #[{ on := 5, ground := Ground.data }, { on := 6, ground := Ground.data }, { on := 3, ground := Ground.chain }], guard := none }
abbrev p7_8 : Oper := { dst := some 71, op := Op.call { callee := Callee.value (Operand.func 33), args := #[Operand.tmp 70], argTypes := #[27] }, type := 27, pos := "curve.go:33", after := #[{ on := 7, ground := Ground.data }, { on := 7, ground := Ground.chain }], guard := none }
abbrev p7_9 : Oper := { dst := some 72, op := Op.call { callee := Callee.value (Operand.func 29), args := #[Operand.tmp 67, Operand.tmp 71], argTypes := #[27, 27] }, type := 27, pos := "curve.go:33", after := #[{ on := 4, ground := Ground.data }, { on := 8, ground := Ground.data }, { on := 8, ground := Ground.chain }], guard := none }
abbrev p7_10 : Oper := { dst := some 73, op := Op.build 74 #[(0, Operand.tmp 66), (1, Operand.tmp 72)], type := 74, pos := "curve.go:33", after := #[{ on := 3, ground := Ground.data }, { on := 9, ground := Ground.data }], guard := none }
abbrev p7_11 : Oper := { dst := some 13, op := Op.alloc 74, type := 0, pos := "curve.go:33", after := #[], guard := none }
abbrev p7_12 : Oper := { dst := none, op := Op.store 74 (Operand.tmp 13) (Operand.tmp 73), type := 0, pos := "curve.go:33", after := #[{ on := 11, ground := Ground.data }, { on := 10, ground := Ground.data }, { on := 9, ground := Ground.chain }, { on := 0, ground := Ground.phase }, { on := 1, ground := Ground.phase }, { on := 2, ground := Ground.phase }, { on := 3, ground := Ground.phase }, { on := 4, ground := Ground.phase }, { on := 5, ground := Ground.phase }, { on := 6, ground := Ground.phase }, { on := 7, ground := Ground.phase }, { on := 8, ground := Ground.phase }, { on := 9, ground := Ground.phase }, { on := 10, ground := Ground.phase }, { on := 11, ground := Ground.phase }], guard := none }
set_option maxHeartbeats 8000000 in
set_option maxRecDepth 100000 in
theorem step_any (x z s t u : Int) (hx : 0 ≤ x ∧ x < BB) (hz : 0 ≤ z ∧ z < BB) (hs : 0 ≤ s ∧ s < BB) (ht : 0 ≤ t ∧ t < BB) (hu : 0 ≤ u ∧ u < BB) (w : World) :
    Calls Try.prog 61 #[.agg (Ls (Q4 x z s t)), .agg (Ls (lim u))] w fun e w' => e = .returned (.agg (Ls (Q4 (vX x z) (vZ x z) (vS x z s t) (vT u x z s t)))) ∧ Below w.heap.size w w' := by
  have N_x : N x x := N.of hx
  have N_z : N z z := N.of hz
  have N_s : N s s := N.of hs
  have N_t : N t t := N.of ht
  have N_u : N u u := N.of hu
  obtain ⟨sum, d_sum⟩ : ∃ y, addV x z = y := ⟨_, rfl⟩
  have K_sum : Hid (∀ w', Calls Try.prog 25 #[.agg (Ls (lim x)), .agg (Ls (lim z))] w' fun e w2 => e = .returned (.agg (Ls (lim sum))) ∧ Below w'.heap.size w' w2) := fun w' => by rw [← d_sum]; exact cAdd N_x N_z w'
  have N_sum : N sum sum := by rw [← d_sum]; exact N.of (N_x.add N_z).r
  obtain ⟨dif, d_dif⟩ : ∃ y, subV x z = y := ⟨_, rfl⟩
  have K_dif : Hid (∀ w', Calls Try.prog 27 #[.agg (Ls (lim x)), .agg (Ls (lim z))] w' fun e w2 => e = .returned (.agg (Ls (lim dif))) ∧ Below w'.heap.size w' w2) := fun w' => by rw [← d_dif]; exact cSub N_x N_z w'
  have N_dif : N dif dif := by rw [← d_dif]; exact N.of (N_x.sub N_z).r
  obtain ⟨aa, d_aa⟩ : ∃ y, mulV sum sum = y := ⟨_, rfl⟩
  have K_aa : Hid (∀ w', Calls Try.prog 33 #[.agg (Ls (lim sum))] w' fun e w2 => e = .returned (.agg (Ls (lim aa))) ∧ Below w'.heap.size w' w2) := fun w' => by rw [← d_aa]; exact cSquare N_sum w'
  have N_aa : N aa aa := by rw [← d_aa]; exact N.of (N_sum.mul N_sum).r
  obtain ⟨bb, d_bb⟩ : ∃ y, mulV dif dif = y := ⟨_, rfl⟩
  have K_bb : Hid (∀ w', Calls Try.prog 33 #[.agg (Ls (lim dif))] w' fun e w2 => e = .returned (.agg (Ls (lim bb))) ∧ Below w'.heap.size w' w2) := fun w' => by rw [← d_bb]; exact cSquare N_dif w'
  have N_bb : N bb bb := by rw [← d_bb]; exact N.of (N_dif.mul N_dif).r
  obtain ⟨ee, d_ee⟩ : ∃ y, subV aa bb = y := ⟨_, rfl⟩
  have K_ee : Hid (∀ w', Calls Try.prog 27 #[.agg (Ls (lim aa)), .agg (Ls (lim bb))] w' fun e w2 => e = .returned (.agg (Ls (lim ee))) ∧ Below w'.heap.size w' w2) := fun w' => by rw [← d_ee]; exact cSub N_aa N_bb w'
  have N_ee : N ee ee := by rw [← d_ee]; exact N.of (N_aa.sub N_bb).r
  obtain ⟨sst, d_sst⟩ : ∃ y, subV s t = y := ⟨_, rfl⟩
  have K_sst : Hid (∀ w', Calls Try.prog 27 #[.agg (Ls (lim s)), .agg (Ls (lim t))] w' fun e w2 => e = .returned (.agg (Ls (lim sst))) ∧ Below w'.heap.size w' w2) := fun w' => by rw [← d_sst]; exact cSub N_s N_t w'
  have N_sst : N sst sst := by rw [← d_sst]; exact N.of (N_s.sub N_t).r
  obtain ⟨cc, d_cc⟩ : ∃ y, mulV sum sst = y := ⟨_, rfl⟩
  have K_cc : Hid (∀ w', Calls Try.prog 29 #[.agg (Ls (lim sum)), .agg (Ls (lim sst))] w' fun e w2 => e = .returned (.agg (Ls (lim cc))) ∧ Below w'.heap.size w' w2) := fun w' => by rw [← d_cc]; exact cMul N_sum N_sst w'
  have N_cc : N cc cc := by rw [← d_cc]; exact N.of (N_sum.mul N_sst).r
  obtain ⟨ast, d_ast⟩ : ∃ y, addV s t = y := ⟨_, rfl⟩
  have K_ast : Hid (∀ w', Calls Try.prog 25 #[.agg (Ls (lim s)), .agg (Ls (lim t))] w' fun e w2 => e = .returned (.agg (Ls (lim ast))) ∧ Below w'.heap.size w' w2) := fun w' => by rw [← d_ast]; exact cAdd N_s N_t w'
  have N_ast : N ast ast := by rw [← d_ast]; exact N.of (N_s.add N_t).r
  obtain ⟨dd, d_dd⟩ : ∃ y, mulV dif ast = y := ⟨_, rfl⟩
  have K_dd : Hid (∀ w', Calls Try.prog 29 #[.agg (Ls (lim dif)), .agg (Ls (lim ast))] w' fun e w2 => e = .returned (.agg (Ls (lim dd))) ∧ Below w'.heap.size w' w2) := fun w' => by rw [← d_dd]; exact cMul N_dif N_ast w'
  have N_dd : N dd dd := by rw [← d_dd]; exact N.of (N_dif.mul N_ast).r
  obtain ⟨xx, d_xx⟩ : ∃ y, mulV aa bb = y := ⟨_, rfl⟩
  have K_xx : Hid (∀ w', Calls Try.prog 29 #[.agg (Ls (lim aa)), .agg (Ls (lim bb))] w' fun e w2 => e = .returned (.agg (Ls (lim xx))) ∧ Below w'.heap.size w' w2) := fun w' => by rw [← d_xx]; exact cMul N_aa N_bb w'
  have N_xx : N xx xx := by rw [← d_xx]; exact N.of (N_aa.mul N_bb).r
  obtain ⟨e1, d_e1⟩ : ∃ y, timesV ee 121665 = y := ⟨_, rfl⟩
  have K_e1 : Hid (∀ w', Calls Try.prog 31 #[.agg (Ls (lim ee)), .int .u32 121665] w' fun e w2 => e = .returned (.agg (Ls (lim e1))) ∧ Below w'.heap.size w' w2) := fun w' => by rw [← d_e1]; exact cTimes N_ee 121665 (by omega) (by omega) w'
  have N_e1 : N e1 e1 := by rw [← d_e1]; exact N.of (N_ee.times (n := 121665) (by omega) (by omega)).r
  obtain ⟨ae, d_ae⟩ : ∃ y, addV aa e1 = y := ⟨_, rfl⟩
  have K_ae : Hid (∀ w', Calls Try.prog 25 #[.agg (Ls (lim aa)), .agg (Ls (lim e1))] w' fun e w2 => e = .returned (.agg (Ls (lim ae))) ∧ Below w'.heap.size w' w2) := fun w' => by rw [← d_ae]; exact cAdd N_aa N_e1 w'
  have N_ae : N ae ae := by rw [← d_ae]; exact N.of (N_aa.add N_e1).r
  obtain ⟨zz, d_zz⟩ : ∃ y, mulV ee ae = y := ⟨_, rfl⟩
  have K_zz : Hid (∀ w', Calls Try.prog 29 #[.agg (Ls (lim ee)), .agg (Ls (lim ae))] w' fun e w2 => e = .returned (.agg (Ls (lim zz))) ∧ Below w'.heap.size w' w2) := fun w' => by rw [← d_zz]; exact cMul N_ee N_ae w'
  have N_zz : N zz zz := by rw [← d_zz]; exact N.of (N_ee.mul N_ae).r
  obtain ⟨cd, d_cd⟩ : ∃ y, addV cc dd = y := ⟨_, rfl⟩
  have K_cd : Hid (∀ w', Calls Try.prog 25 #[.agg (Ls (lim cc)), .agg (Ls (lim dd))] w' fun e w2 => e = .returned (.agg (Ls (lim cd))) ∧ Below w'.heap.size w' w2) := fun w' => by rw [← d_cd]; exact cAdd N_cc N_dd w'
  have N_cd : N cd cd := by rw [← d_cd]; exact N.of (N_cc.add N_dd).r
  obtain ⟨ss, d_ss⟩ : ∃ y, mulV cd cd = y := ⟨_, rfl⟩
  have K_ss : Hid (∀ w', Calls Try.prog 33 #[.agg (Ls (lim cd))] w' fun e w2 => e = .returned (.agg (Ls (lim ss))) ∧ Below w'.heap.size w' w2) := fun w' => by rw [← d_ss]; exact cSquare N_cd w'
  have N_ss : N ss ss := by rw [← d_ss]; exact N.of (N_cd.mul N_cd).r
  obtain ⟨cm, d_cm⟩ : ∃ y, subV cc dd = y := ⟨_, rfl⟩
  have K_cm : Hid (∀ w', Calls Try.prog 27 #[.agg (Ls (lim cc)), .agg (Ls (lim dd))] w' fun e w2 => e = .returned (.agg (Ls (lim cm))) ∧ Below w'.heap.size w' w2) := fun w' => by rw [← d_cm]; exact cSub N_cc N_dd w'
  have N_cm : N cm cm := by rw [← d_cm]; exact N.of (N_cc.sub N_dd).r
  obtain ⟨cq, d_cq⟩ : ∃ y, mulV cm cm = y := ⟨_, rfl⟩
  have K_cq : Hid (∀ w', Calls Try.prog 33 #[.agg (Ls (lim cm))] w' fun e w2 => e = .returned (.agg (Ls (lim cq))) ∧ Below w'.heap.size w' w2) := fun w' => by rw [← d_cq]; exact cSquare N_cm w'
  have N_cq : N cq cq := by rw [← d_cq]; exact N.of (N_cm.mul N_cm).r
  obtain ⟨tt, d_tt⟩ : ∃ y, mulV u cq = y := ⟨_, rfl⟩
  have K_tt : Hid (∀ w', Calls Try.prog 29 #[.agg (Ls (lim u)), .agg (Ls (lim cq))] w' fun e w2 => e = .returned (.agg (Ls (lim tt))) ∧ Below w'.heap.size w' w2) := fun w' => by rw [← d_tt]; exact cMul N_u N_cq w'
  have N_tt : N tt tt := by rw [← d_tt]; exact N.of (N_u.mul N_cq).r
  have r1 : vX x z = xx := by unfold vX vA vB; simp only [d_sum, d_dif, d_aa, d_bb, d_ee, d_sst, d_cc, d_ast, d_dd, d_xx, d_e1, d_ae, d_zz, d_cd, d_ss, d_cm, d_cq, d_tt]
  have r2 : vZ x z = zz := by unfold vZ vE vA vB; simp only [d_sum, d_dif, d_aa, d_bb, d_ee, d_sst, d_cc, d_ast, d_dd, d_xx, d_e1, d_ae, d_zz, d_cd, d_ss, d_cm, d_cq, d_tt]
  have r3 : vS x z s t = ss := by unfold vS vC vD; simp only [d_sum, d_dif, d_aa, d_bb, d_ee, d_sst, d_cc, d_ast, d_dd, d_xx, d_e1, d_ae, d_zz, d_cd, d_ss, d_cm, d_cq, d_tt]
  have r4 : vT u x z s t = tt := by unfold vT vC vD; simp only [d_sum, d_dif, d_aa, d_bb, d_ee, d_sst, d_cc, d_ast, d_dd, d_xx, d_e1, d_ae, d_zz, d_cd, d_ss, d_cm, d_cq, d_tt]
  rw [r1, r2, r3, r4]
  clear r1 r2 r3 r4 d_sum d_dif d_aa d_bb d_ee d_sst d_cc d_ast d_dd d_xx d_e1 d_ae d_zz d_cd d_ss d_cm d_cq d_tt N_sum N_dif N_aa N_bb N_ee N_sst N_cc N_ast N_dd N_xx N_e1 N_ae N_zz N_cd N_ss N_cm N_cq N_tt N_x N_z N_s N_t N_u hx hz hs ht hu
  have hL : LS w [(w.heap.size, Q4 x z s t, 76), (w.heap.size + 1, lim u, 27), (w.heap.size + 1 + 1, Q4 0 0 0 0, 76)] (((w.alloc (.cells (Ls (Q4 x z s t)) 76)).alloc (.cells (Ls (lim u)) 27)).alloc (.cells Z16 76)) := ⟨(((Below.refl _ _).alloc (Nat.le_refl _) _).alloc (by simp) _).alloc (by simp; omega) _, fun y hy => by
    simp only [List.mem_cons, List.not_mem_nil, or_false] at hy
    rcases hy with rfl | rfl | rfl
    · exact ⟨Nat.le_refl _, heap_alloc3_0 w _ _ _⟩
    · exact ⟨by dsimp only; omega, heap_alloc3_1 w _ _ _⟩
    · exact ⟨by dsimp only; omega, heap_alloc3_2 w _ _ _⟩⟩
  obtain ⟨w1, hw1⟩ : ∃ y, ((w.alloc (.cells (Ls (Q4 x z s t)) 76)).alloc (.cells (Ls (lim u)) 27)).alloc (.cells Z16 76) = y := ⟨_, rfl⟩
  rw [hw1] at hL
  have HL := Lib.hid hL
  have HW := Lib.hid hw1
  clear hL hw1
  go_enter Try.func61, Try.ntmps61
  go_upto_region 1 with fail
  rw [HW.out]
  clear HW
  go_cut [5, 6] (fun s5 s6 wc => ∃ g5 g6, s5 = .pointer (some ⟨g5, 0, none⟩) ∧ s6 = .pointer (some ⟨g6, 0, none⟩) ∧ LS w ((g6, lim dif, 27) :: (g5, lim sum, 27) :: [(w.heap.size, Q4 x z s t, 76), (w.heap.size + 1, lim u, 27), (w.heap.size + 1 + 1, Q4 0 0 0 0, 76)]) wc)
  case first =>
    refine wp_region_held_drew (S := LS w ([(w.heap.size, Q4 x z s t, 76), (w.heap.size + 1, lim u, 27), (w.heap.size + 1 + 1, Q4 0 0 0 0, 76)])) (by kernel_rfl) HL.out.drew (fun hst => ?_)
    obtain ⟨wd, hwd⟩ : ∃ y, w1.drew = y := ⟨_, rfl⟩
    rw [hwd] at hst ⊢
    clear hwd
    refine wpAnyH_take (i := 0) (oi := p1_0) (v := .pointer (some ⟨w.heap.size, 0, none⟩)) rfl (by kernel_rfl) (by kernel_rfl) (by kernel_rfl) (fun _ _ _ h => h) (Or.inl ⟨by rfl, fun w' _ => by rfl⟩) hst ?_
    unfold p1_0; simp only [Act.put, List.setIfInBounds_toArray, List.set_cons_zero, List.set_cons_succ]
    refine wpAnyH_take (i := 1) (oi := p1_1) (v := .pointer (some ⟨w.heap.size, 0, none⟩)) rfl (by kernel_rfl) (by kernel_rfl) (by kernel_rfl) (fun _ _ _ h => h) (Or.inl ⟨by rfl, fun w' _ => by rfl⟩) hst ?_
    unfold p1_1; simp only [Act.put, List.setIfInBounds_toArray, List.set_cons_zero, List.set_cons_succ]
    refine wpAnyH_take (i := 2) (oi := p1_2) (v := .agg (Ls (lim x))) rfl (by kernel_rfl) (by kernel_rfl) (by kernel_rfl) (fun _ _ _ h => h) (yloadM (by rfl) _ rfl w.heap.size 0 (Q4 x z s t) (lim x) 76 rfl (by simp) rfl (P4_0 (lim_length x) (lim_length z) (lim_length s) (lim_length t))) hst ?_
    unfold p1_2; simp only [Act.put, List.setIfInBounds_toArray, List.set_cons_zero, List.set_cons_succ]
    refine wpAnyH_take (i := 3) (oi := p1_3) (v := .pointer (some ⟨w.heap.size, 0, none⟩)) rfl (by kernel_rfl) (by kernel_rfl) (by kernel_rfl) (fun _ _ _ h => h) (Or.inl ⟨by rfl, fun w' _ => by rfl⟩) hst ?_
    unfold p1_3; simp only [Act.put, List.setIfInBounds_toArray, List.set_cons_zero, List.set_cons_succ]
    refine wpAnyH_take (i := 4) (oi := p1_4) (v := .pointer (some ⟨w.heap.size, 4, none⟩)) rfl (by kernel_rfl) (by kernel_rfl) (by kernel_rfl) (fun _ _ _ h => h) (Or.inl ⟨by rfl, fun w' _ => by rfl⟩) hst ?_
    unfold p1_4; simp only [Act.put, List.setIfInBounds_toArray, List.set_cons_zero, List.set_cons_succ]
    refine wpAnyH_take (i := 5) (oi := p1_5) (v := .agg (Ls (lim z))) rfl (by kernel_rfl) (by kernel_rfl) (by kernel_rfl) (fun _ _ _ h => h) (yloadM (by rfl) _ rfl w.heap.size 4 (Q4 x z s t) (lim z) 76 rfl (by simp) rfl (P4_4 (lim_length x) (lim_length z) (lim_length s) (lim_length t))) hst ?_
    unfold p1_5; simp only [Act.put, List.setIfInBounds_toArray, List.set_cons_zero, List.set_cons_succ]
    refine wpAnyH_take (i := 7) (oi := p1_7) (v := .pointer (some ⟨w.heap.size, 0, none⟩)) rfl (by kernel_rfl) (by kernel_rfl) (by kernel_rfl) (fun _ _ _ h => h) (Or.inl ⟨by rfl, fun w' _ => by rfl⟩) hst ?_
    unfold p1_7; simp only [Act.put, List.setIfInBounds_toArray, List.set_cons_zero, List.set_cons_succ]
    refine wpAnyH_take (i := 8) (oi := p1_8) (v := .pointer (some ⟨w.heap.size, 0, none⟩)) rfl (by kernel_rfl) (by kernel_rfl) (by kernel_rfl) (fun _ _ _ h => h) (Or.inl ⟨by rfl, fun w' _ => by rfl⟩) hst ?_
    unfold p1_8; simp only [Act.put, List.setIfInBounds_toArray, List.set_cons_zero, List.set_cons_succ]
    refine wpAnyH_take (i := 9) (oi := p1_9) (v := .agg (Ls (lim x))) rfl (by kernel_rfl) (by kernel_rfl) (by kernel_rfl) (fun _ _ _ h => h) (yloadM (by rfl) _ rfl w.heap.size 0 (Q4 x z s t) (lim x) 76 rfl (by simp) rfl (P4_0 (lim_length x) (lim_length z) (lim_length s) (lim_length t))) hst ?_
    unfold p1_9; simp only [Act.put, List.setIfInBounds_toArray, List.set_cons_zero, List.set_cons_succ]
    refine wpAnyH_take (i := 10) (oi := p1_10) (v := .pointer (some ⟨w.heap.size, 0, none⟩)) rfl (by kernel_rfl) (by kernel_rfl) (by kernel_rfl) (fun _ _ _ h => h) (Or.inl ⟨by rfl, fun w' _ => by rfl⟩) hst ?_
    unfold p1_10; simp only [Act.put, List.setIfInBounds_toArray, List.set_cons_zero, List.set_cons_succ]
    refine wpAnyH_take (i := 11) (oi := p1_11) (v := .pointer (some ⟨w.heap.size, 4, none⟩)) rfl (by kernel_rfl) (by kernel_rfl) (by kernel_rfl) (fun _ _ _ h => h) (Or.inl ⟨by rfl, fun w' _ => by rfl⟩) hst ?_
    unfold p1_11; simp only [Act.put, List.setIfInBounds_toArray, List.set_cons_zero, List.set_cons_succ]
    refine wpAnyH_take (i := 12) (oi := p1_12) (v := .agg (Ls (lim z))) rfl (by kernel_rfl) (by kernel_rfl) (by kernel_rfl) (fun _ _ _ h => h) (yloadM (by rfl) _ rfl w.heap.size 4 (Q4 x z s t) (lim z) 76 rfl (by simp) rfl (P4_4 (lim_length x) (lim_length z) (lim_length s) (lim_length t))) hst ?_
    unfold p1_12; simp only [Act.put, List.setIfInBounds_toArray, List.set_cons_zero, List.set_cons_succ]
    refine wpAnyH_ready (rs := [6, 14, 15]) (by kernel_rfl) (by simp) ?_
    refine AllReadyH.cons (o := p1_6) rfl (fun K hK => ?_) ?_
    ·
     unfold p1_6; go_simp; refine (K_sum.out _).mono ?_; rintro e w1 ⟨rfl, hb⟩
     refine hK.out _ _ (hst.call hb) (fun h1 => ?_)
     clear hK K hb
     refine wpAnyH_ready (rs := [13, 14, 15]) (by kernel_rfl) (by simp) ?_
     refine AllReadyH.cons (o := p1_13) rfl (fun K hK => ?_) ?_
     ·
      unfold p1_13; go_simp; refine (K_dif.out _).mono ?_; rintro e w2 ⟨rfl, hb⟩
      refine hK.out _ _ (h1.call hb) (fun h2 => ?_)
      clear hK K hb
      refine wpAnyH_ready (rs := [14, 15]) (by kernel_rfl) (by simp) ?_
      refine AllReadyH.cons (o := p1_14) rfl (fun K hK => ?_) ?_
      ·
       unfold p1_14; go_simp; obtain ⟨g4, w6, e1, e2, hl, b5, hc⟩ := LS.mk27 h2; rw [e1, e2]
       refine hK.out _ _ hl (fun h3 => ?_)
       clear hK K e1 e2 hl hc
       refine wpAnyH_ready (rs := [15]) (by kernel_rfl) (by simp) ?_
       refine AllReadyH.cons (o := p1_15) rfl (fun K hK => ?_) ?_
       ·
        unfold p1_15; go_simp; obtain ⟨g8, w10, e1, e2, hl, b9, hc⟩ := LS.mk27 h3; rw [e1, e2]
        refine hK.out _ _ hl (fun h7 => ?_)
        obtain ⟨b11, d12⟩ := hc _ _ _ b5
        clear hK K e1 e2 hl hc
        refine wpAnyH_ready (rs := [16]) (by kernel_rfl) (by simp) ?_
        refine AllReadyH.cons (o := p1_16) rfl (fun K hK => ?_) ?_
        ·
         unfold p1_16; refine step_store27 rfl _ _ rfl g4 (lim sum) [0, 0, 0, 0] rfl rfl b11.n rfl rfl ?_
         obtain ⟨w14, e1, hl, b15, hc⟩ := LS.wr h7 b11 (lim sum); rw [e1]
         refine hK.out _ _ hl (fun h13 => ?_)
         have b16 := hc _ _ _ b9 (by omega)
         clear hK K e1 hl hc
         refine wpAnyH_ready (rs := [17]) (by kernel_rfl) (by simp) ?_
         refine AllReadyH.cons (o := p1_17) rfl (fun K hK => ?_) ?_
         ·
          unfold p1_17; refine step_store27 rfl _ _ rfl g8 (lim dif) [0, 0, 0, 0] rfl rfl b16.n rfl rfl ?_
          obtain ⟨w18, e1, hl, b19, hc⟩ := LS.wr h13 b16 (lim dif); rw [e1]
          refine hK.out _ _ hl (fun h17 => ?_)
          have b20 := hc _ _ _ b15 (by omega)
          clear hK K e1 hl hc
          refine wpAnyH_done (by kernel_rfl) ?_ _
          simp only [Act.put]; go_wp2_with fail; go_meet
          exact ⟨_, _, rfl, rfl, ((h17.add b20.z b20.n).add b19.z b19.n)⟩
         exact AllReadyH.nil
        exact AllReadyH.nil
       exact AllReadyH.nil
      refine AllReadyH.cons (o := p1_15) rfl (fun K hK => ?_) ?_
      ·
       unfold p1_15; go_simp; obtain ⟨g22, w24, e1, e2, hl, b23, hc⟩ := LS.mk27 h2; rw [e1, e2]
       refine hK.out _ _ hl (fun h21 => ?_)
       clear hK K e1 e2 hl hc
       refine wpAnyH_ready (rs := [14]) (by kernel_rfl) (by simp) ?_
       refine AllReadyH.cons (o := p1_14) rfl (fun K hK => ?_) ?_
       ·
        unfold p1_14; go_simp; obtain ⟨g26, w28, e1, e2, hl, b27, hc⟩ := LS.mk27 h21; rw [e1, e2]
        refine hK.out _ _ hl (fun h25 => ?_)
        obtain ⟨b29, d30⟩ := hc _ _ _ b23
        clear hK K e1 e2 hl hc
        refine wpAnyH_ready (rs := [16]) (by kernel_rfl) (by simp) ?_
        refine AllReadyH.cons (o := p1_16) rfl (fun K hK => ?_) ?_
        ·
         unfold p1_16; refine step_store27 rfl _ _ rfl g26 (lim sum) [0, 0, 0, 0] rfl rfl b27.n rfl rfl ?_
         obtain ⟨w32, e1, hl, b33, hc⟩ := LS.wr h25 b27 (lim sum); rw [e1]
         refine hK.out _ _ hl (fun h31 => ?_)
         have b34 := hc _ _ _ b29 (by omega)
         clear hK K e1 hl hc
         refine wpAnyH_ready (rs := [17]) (by kernel_rfl) (by simp) ?_
         refine AllReadyH.cons (o := p1_17) rfl (fun K hK => ?_) ?_
         ·
          unfold p1_17; refine step_store27 rfl _ _ rfl g22 (lim dif) [0, 0, 0, 0] rfl rfl b34.n rfl rfl ?_
          obtain ⟨w36, e1, hl, b37, hc⟩ := LS.wr h31 b34 (lim dif); rw [e1]
          refine hK.out _ _ hl (fun h35 => ?_)
          have b38 := hc _ _ _ b33 (by omega)
          clear hK K e1 hl hc
          refine wpAnyH_done (by kernel_rfl) ?_ _
          simp only [Act.put]; go_wp2_with fail; go_meet
          exact ⟨_, _, rfl, rfl, ((h35.add b38.z b38.n).add b37.z b37.n)⟩
         exact AllReadyH.nil
        exact AllReadyH.nil
       exact AllReadyH.nil
      exact AllReadyH.nil
     refine AllReadyH.cons (o := p1_14) rfl (fun K hK => ?_) ?_
     ·
      unfold p1_14; go_simp; obtain ⟨g40, w42, e1, e2, hl, b41, hc⟩ := LS.mk27 h1; rw [e1, e2]
      refine hK.out _ _ hl (fun h39 => ?_)
      clear hK K e1 e2 hl hc
      refine wpAnyH_ready (rs := [13, 15]) (by kernel_rfl) (by simp) ?_
      refine AllReadyH.cons (o := p1_13) rfl (fun K hK => ?_) ?_
      ·
       unfold p1_13; go_simp; refine (K_dif.out _).mono ?_; rintro e w43 ⟨rfl, hb⟩
       refine hK.out _ _ (h39.call hb) (fun h43 => ?_)
       have b44 := b41.call hb
       clear hK K hb
       refine wpAnyH_ready (rs := [15]) (by kernel_rfl) (by simp) ?_
       refine AllReadyH.cons (o := p1_15) rfl (fun K hK => ?_) ?_
       ·
        unfold p1_15; go_simp; obtain ⟨g46, w48, e1, e2, hl, b47, hc⟩ := LS.mk27 h43; rw [e1, e2]
        refine hK.out _ _ hl (fun h45 => ?_)
        obtain ⟨b49, d50⟩ := hc _ _ _ b44
        clear hK K e1 e2 hl hc
        refine wpAnyH_ready (rs := [16]) (by kernel_rfl) (by simp) ?_
        refine AllReadyH.cons (o := p1_16) rfl (fun K hK => ?_) ?_
        ·
         unfold p1_16; refine step_store27 rfl _ _ rfl g40 (lim sum) [0, 0, 0, 0] rfl rfl b49.n rfl rfl ?_
         obtain ⟨w52, e1, hl, b53, hc⟩ := LS.wr h45 b49 (lim sum); rw [e1]
         refine hK.out _ _ hl (fun h51 => ?_)
         have b54 := hc _ _ _ b47 (by omega)
         clear hK K e1 hl hc
         refine wpAnyH_ready (rs := [17]) (by kernel_rfl) (by simp) ?_
         refine AllReadyH.cons (o := p1_17) rfl (fun K hK => ?_) ?_
         ·
          unfold p1_17; refine step_store27 rfl _ _ rfl g46 (lim dif) [0, 0, 0, 0] rfl rfl b54.n rfl rfl ?_
          obtain ⟨w56, e1, hl, b57, hc⟩ := LS.wr h51 b54 (lim dif); rw [e1]
          refine hK.out _ _ hl (fun h55 => ?_)
          have b58 := hc _ _ _ b53 (by omega)
          clear hK K e1 hl hc
          refine wpAnyH_done (by kernel_rfl) ?_ _
          simp only [Act.put]; go_wp2_with fail; go_meet
          exact ⟨_, _, rfl, rfl, ((h55.add b58.z b58.n).add b57.z b57.n)⟩
         exact AllReadyH.nil
        exact AllReadyH.nil
       exact AllReadyH.nil
      refine AllReadyH.cons (o := p1_15) rfl (fun K hK => ?_) ?_
      ·
       unfold p1_15; go_simp; obtain ⟨g60, w62, e1, e2, hl, b61, hc⟩ := LS.mk27 h39; rw [e1, e2]
       refine hK.out _ _ hl (fun h59 => ?_)
       obtain ⟨b63, d64⟩ := hc _ _ _ b41
       clear hK K e1 e2 hl hc
       refine wpAnyH_ready (rs := [13]) (by kernel_rfl) (by simp) ?_
       refine AllReadyH.cons (o := p1_13) rfl (fun K hK => ?_) ?_
       ·
        unfold p1_13; go_simp; refine (K_dif.out _).mono ?_; rintro e w65 ⟨rfl, hb⟩
        refine hK.out _ _ (h59.call hb) (fun h65 => ?_)
        have b66 := b63.call hb
        have b67 := b61.call hb
        clear hK K hb
        refine wpAnyH_ready (rs := [16]) (by kernel_rfl) (by simp) ?_
        refine AllReadyH.cons (o := p1_16) rfl (fun K hK => ?_) ?_
        ·
         unfold p1_16; refine step_store27 rfl _ _ rfl g40 (lim sum) [0, 0, 0, 0] rfl rfl b66.n rfl rfl ?_
         obtain ⟨w69, e1, hl, b70, hc⟩ := LS.wr h65 b66 (lim sum); rw [e1]
         refine hK.out _ _ hl (fun h68 => ?_)
         have b71 := hc _ _ _ b67 (by omega)
         clear hK K e1 hl hc
         refine wpAnyH_ready (rs := [17]) (by kernel_rfl) (by simp) ?_
         refine AllReadyH.cons (o := p1_17) rfl (fun K hK => ?_) ?_
         ·
          unfold p1_17; refine step_store27 rfl _ _ rfl g60 (lim dif) [0, 0, 0, 0] rfl rfl b71.n rfl rfl ?_
          obtain ⟨w73, e1, hl, b74, hc⟩ := LS.wr h68 b71 (lim dif); rw [e1]
          refine hK.out _ _ hl (fun h72 => ?_)
          have b75 := hc _ _ _ b70 (by omega)
          clear hK K e1 hl hc
          refine wpAnyH_done (by kernel_rfl) ?_ _
          simp only [Act.put]; go_wp2_with fail; go_meet
          exact ⟨_, _, rfl, rfl, ((h72.add b75.z b75.n).add b74.z b74.n)⟩
         exact AllReadyH.nil
        exact AllReadyH.nil
       exact AllReadyH.nil
      exact AllReadyH.nil
     refine AllReadyH.cons (o := p1_15) rfl (fun K hK => ?_) ?_
     ·
      unfold p1_15; go_simp; obtain ⟨g77, w79, e1, e2, hl, b78, hc⟩ := LS.mk27 h1; rw [e1, e2]
      refine hK.out _ _ hl (fun h76 => ?_)
      clear hK K e1 e2 hl hc
      refine wpAnyH_ready (rs := [13, 14]) (by kernel_rfl) (by simp) ?_
      refine AllReadyH.cons (o := p1_13) rfl (fun K hK => ?_) ?_
      ·
       unfold p1_13; go_simp; refine (K_dif.out _).mono ?_; rintro e w80 ⟨rfl, hb⟩
       refine hK.out _ _ (h76.call hb) (fun h80 => ?_)
       have b81 := b78.call hb
       clear hK K hb
       refine wpAnyH_ready (rs := [14]) (by kernel_rfl) (by simp) ?_
       refine AllReadyH.cons (o := p1_14) rfl (fun K hK => ?_) ?_
       ·
        unfold p1_14; go_simp; obtain ⟨g83, w85, e1, e2, hl, b84, hc⟩ := LS.mk27 h80; rw [e1, e2]
        refine hK.out _ _ hl (fun h82 => ?_)
        obtain ⟨b86, d87⟩ := hc _ _ _ b81
        clear hK K e1 e2 hl hc
        refine wpAnyH_ready (rs := [16]) (by kernel_rfl) (by simp) ?_
        refine AllReadyH.cons (o := p1_16) rfl (fun K hK => ?_) ?_
        ·
         unfold p1_16; refine step_store27 rfl _ _ rfl g83 (lim sum) [0, 0, 0, 0] rfl rfl b84.n rfl rfl ?_
         obtain ⟨w89, e1, hl, b90, hc⟩ := LS.wr h82 b84 (lim sum); rw [e1]
         refine hK.out _ _ hl (fun h88 => ?_)
         have b91 := hc _ _ _ b86 (by omega)
         clear hK K e1 hl hc
         refine wpAnyH_ready (rs := [17]) (by kernel_rfl) (by simp) ?_
         refine AllReadyH.cons (o := p1_17) rfl (fun K hK => ?_) ?_
         ·
          unfold p1_17; refine step_store27 rfl _ _ rfl g77 (lim dif) [0, 0, 0, 0] rfl rfl b91.n rfl rfl ?_
          obtain ⟨w93, e1, hl, b94, hc⟩ := LS.wr h88 b91 (lim dif); rw [e1]
          refine hK.out _ _ hl (fun h92 => ?_)
          have b95 := hc _ _ _ b90 (by omega)
          clear hK K e1 hl hc
          refine wpAnyH_done (by kernel_rfl) ?_ _
          simp only [Act.put]; go_wp2_with fail; go_meet
          exact ⟨_, _, rfl, rfl, ((h92.add b95.z b95.n).add b94.z b94.n)⟩
         exact AllReadyH.nil
        exact AllReadyH.nil
       exact AllReadyH.nil
      refine AllReadyH.cons (o := p1_14) rfl (fun K hK => ?_) ?_
      ·
       unfold p1_14; go_simp; obtain ⟨g97, w99, e1, e2, hl, b98, hc⟩ := LS.mk27 h76; rw [e1, e2]
       refine hK.out _ _ hl (fun h96 => ?_)
       obtain ⟨b100, d101⟩ := hc _ _ _ b78
       clear hK K e1 e2 hl hc
       refine wpAnyH_ready (rs := [13]) (by kernel_rfl) (by simp) ?_
       refine AllReadyH.cons (o := p1_13) rfl (fun K hK => ?_) ?_
       ·
        unfold p1_13; go_simp; refine (K_dif.out _).mono ?_; rintro e w102 ⟨rfl, hb⟩
        refine hK.out _ _ (h96.call hb) (fun h102 => ?_)
        have b103 := b100.call hb
        have b104 := b98.call hb
        clear hK K hb
        refine wpAnyH_ready (rs := [16]) (by kernel_rfl) (by simp) ?_
        refine AllReadyH.cons (o := p1_16) rfl (fun K hK => ?_) ?_
        ·
         unfold p1_16; refine step_store27 rfl _ _ rfl g97 (lim sum) [0, 0, 0, 0] rfl rfl b104.n rfl rfl ?_
         obtain ⟨w106, e1, hl, b107, hc⟩ := LS.wr h102 b104 (lim sum); rw [e1]
         refine hK.out _ _ hl (fun h105 => ?_)
         have b108 := hc _ _ _ b103 (by omega)
         clear hK K e1 hl hc
         refine wpAnyH_ready (rs := [17]) (by kernel_rfl) (by simp) ?_
         refine AllReadyH.cons (o := p1_17) rfl (fun K hK => ?_) ?_
         ·
          unfold p1_17; refine step_store27 rfl _ _ rfl g77 (lim dif) [0, 0, 0, 0] rfl rfl b108.n rfl rfl ?_
          obtain ⟨w110, e1, hl, b111, hc⟩ := LS.wr h105 b108 (lim dif); rw [e1]
          refine hK.out _ _ hl (fun h109 => ?_)
          have b112 := hc _ _ _ b107 (by omega)
          clear hK K e1 hl hc
          refine wpAnyH_done (by kernel_rfl) ?_ _
          simp only [Act.put]; go_wp2_with fail; go_meet
          exact ⟨_, _, rfl, rfl, ((h109.add b112.z b112.n).add b111.z b111.n)⟩
         exact AllReadyH.nil
        exact AllReadyH.nil
       exact AllReadyH.nil
      exact AllReadyH.nil
     exact AllReadyH.nil
    refine AllReadyH.cons (o := p1_14) rfl (fun K hK => ?_) ?_
    ·
     unfold p1_14; go_simp; obtain ⟨g114, w116, e1, e2, hl, b115, hc⟩ := LS.mk27 hst; rw [e1, e2]
     refine hK.out _ _ hl (fun h113 => ?_)
     clear hK K e1 e2 hl hc
     refine wpAnyH_ready (rs := [6, 15]) (by kernel_rfl) (by simp) ?_
     refine AllReadyH.cons (o := p1_6) rfl (fun K hK => ?_) ?_
     ·
      unfold p1_6; go_simp; refine (K_sum.out _).mono ?_; rintro e w117 ⟨rfl, hb⟩
      refine hK.out _ _ (h113.call hb) (fun h117 => ?_)
      have b118 := b115.call hb
      clear hK K hb
      refine wpAnyH_ready (rs := [13, 15]) (by kernel_rfl) (by simp) ?_
      refine AllReadyH.cons (o := p1_13) rfl (fun K hK => ?_) ?_
      ·
       unfold p1_13; go_simp; refine (K_dif.out _).mono ?_; rintro e w119 ⟨rfl, hb⟩
       refine hK.out _ _ (h117.call hb) (fun h119 => ?_)
       have b120 := b118.call hb
       clear hK K hb
       refine wpAnyH_ready (rs := [15]) (by kernel_rfl) (by simp) ?_
       refine AllReadyH.cons (o := p1_15) rfl (fun K hK => ?_) ?_
       ·
        unfold p1_15; go_simp; obtain ⟨g122, w124, e1, e2, hl, b123, hc⟩ := LS.mk27 h119; rw [e1, e2]
        refine hK.out _ _ hl (fun h121 => ?_)
        obtain ⟨b125, d126⟩ := hc _ _ _ b120
        clear hK K e1 e2 hl hc
        refine wpAnyH_ready (rs := [16]) (by kernel_rfl) (by simp) ?_
        refine AllReadyH.cons (o := p1_16) rfl (fun K hK => ?_) ?_
        ·
         unfold p1_16; refine step_store27 rfl _ _ rfl g114 (lim sum) [0, 0, 0, 0] rfl rfl b125.n rfl rfl ?_
         obtain ⟨w128, e1, hl, b129, hc⟩ := LS.wr h121 b125 (lim sum); rw [e1]
         refine hK.out _ _ hl (fun h127 => ?_)
         have b130 := hc _ _ _ b123 (by omega)
         clear hK K e1 hl hc
         refine wpAnyH_ready (rs := [17]) (by kernel_rfl) (by simp) ?_
         refine AllReadyH.cons (o := p1_17) rfl (fun K hK => ?_) ?_
         ·
          unfold p1_17; refine step_store27 rfl _ _ rfl g122 (lim dif) [0, 0, 0, 0] rfl rfl b130.n rfl rfl ?_
          obtain ⟨w132, e1, hl, b133, hc⟩ := LS.wr h127 b130 (lim dif); rw [e1]
          refine hK.out _ _ hl (fun h131 => ?_)
          have b134 := hc _ _ _ b129 (by omega)
          clear hK K e1 hl hc
          refine wpAnyH_done (by kernel_rfl) ?_ _
          simp only [Act.put]; go_wp2_with fail; go_meet
          exact ⟨_, _, rfl, rfl, ((h131.add b134.z b134.n).add b133.z b133.n)⟩
         exact AllReadyH.nil
        exact AllReadyH.nil
       exact AllReadyH.nil
      refine AllReadyH.cons (o := p1_15) rfl (fun K hK => ?_) ?_
      ·
       unfold p1_15; go_simp; obtain ⟨g136, w138, e1, e2, hl, b137, hc⟩ := LS.mk27 h117; rw [e1, e2]
       refine hK.out _ _ hl (fun h135 => ?_)
       obtain ⟨b139, d140⟩ := hc _ _ _ b118
       clear hK K e1 e2 hl hc
       refine wpAnyH_ready (rs := [13]) (by kernel_rfl) (by simp) ?_
       refine AllReadyH.cons (o := p1_13) rfl (fun K hK => ?_) ?_
       ·
        unfold p1_13; go_simp; refine (K_dif.out _).mono ?_; rintro e w141 ⟨rfl, hb⟩
        refine hK.out _ _ (h135.call hb) (fun h141 => ?_)
        have b142 := b139.call hb
        have b143 := b137.call hb
        clear hK K hb
        refine wpAnyH_ready (rs := [16]) (by kernel_rfl) (by simp) ?_
        refine AllReadyH.cons (o := p1_16) rfl (fun K hK => ?_) ?_
        ·
         unfold p1_16; refine step_store27 rfl _ _ rfl g114 (lim sum) [0, 0, 0, 0] rfl rfl b142.n rfl rfl ?_
         obtain ⟨w145, e1, hl, b146, hc⟩ := LS.wr h141 b142 (lim sum); rw [e1]
         refine hK.out _ _ hl (fun h144 => ?_)
         have b147 := hc _ _ _ b143 (by omega)
         clear hK K e1 hl hc
         refine wpAnyH_ready (rs := [17]) (by kernel_rfl) (by simp) ?_
         refine AllReadyH.cons (o := p1_17) rfl (fun K hK => ?_) ?_
         ·
          unfold p1_17; refine step_store27 rfl _ _ rfl g136 (lim dif) [0, 0, 0, 0] rfl rfl b147.n rfl rfl ?_
          obtain ⟨w149, e1, hl, b150, hc⟩ := LS.wr h144 b147 (lim dif); rw [e1]
          refine hK.out _ _ hl (fun h148 => ?_)
          have b151 := hc _ _ _ b146 (by omega)
          clear hK K e1 hl hc
          refine wpAnyH_done (by kernel_rfl) ?_ _
          simp only [Act.put]; go_wp2_with fail; go_meet
          exact ⟨_, _, rfl, rfl, ((h148.add b151.z b151.n).add b150.z b150.n)⟩
         exact AllReadyH.nil
        exact AllReadyH.nil
       exact AllReadyH.nil
      exact AllReadyH.nil
     refine AllReadyH.cons (o := p1_15) rfl (fun K hK => ?_) ?_
     ·
      unfold p1_15; go_simp; obtain ⟨g153, w155, e1, e2, hl, b154, hc⟩ := LS.mk27 h113; rw [e1, e2]
      refine hK.out _ _ hl (fun h152 => ?_)
      obtain ⟨b156, d157⟩ := hc _ _ _ b115
      clear hK K e1 e2 hl hc
      refine wpAnyH_ready (rs := [6]) (by kernel_rfl) (by simp) ?_
      refine AllReadyH.cons (o := p1_6) rfl (fun K hK => ?_) ?_
      ·
       unfold p1_6; go_simp; refine (K_sum.out _).mono ?_; rintro e w158 ⟨rfl, hb⟩
       refine hK.out _ _ (h152.call hb) (fun h158 => ?_)
       have b159 := b156.call hb
       have b160 := b154.call hb
       clear hK K hb
       refine wpAnyH_ready (rs := [13]) (by kernel_rfl) (by simp) ?_
       refine AllReadyH.cons (o := p1_13) rfl (fun K hK => ?_) ?_
       ·
        unfold p1_13; go_simp; refine (K_dif.out _).mono ?_; rintro e w161 ⟨rfl, hb⟩
        refine hK.out _ _ (h158.call hb) (fun h161 => ?_)
        have b162 := b159.call hb
        have b163 := b160.call hb
        clear hK K hb
        refine wpAnyH_ready (rs := [16]) (by kernel_rfl) (by simp) ?_
        refine AllReadyH.cons (o := p1_16) rfl (fun K hK => ?_) ?_
        ·
         unfold p1_16; refine step_store27 rfl _ _ rfl g114 (lim sum) [0, 0, 0, 0] rfl rfl b162.n rfl rfl ?_
         obtain ⟨w165, e1, hl, b166, hc⟩ := LS.wr h161 b162 (lim sum); rw [e1]
         refine hK.out _ _ hl (fun h164 => ?_)
         have b167 := hc _ _ _ b163 (by omega)
         clear hK K e1 hl hc
         refine wpAnyH_ready (rs := [17]) (by kernel_rfl) (by simp) ?_
         refine AllReadyH.cons (o := p1_17) rfl (fun K hK => ?_) ?_
         ·
          unfold p1_17; refine step_store27 rfl _ _ rfl g153 (lim dif) [0, 0, 0, 0] rfl rfl b167.n rfl rfl ?_
          obtain ⟨w169, e1, hl, b170, hc⟩ := LS.wr h164 b167 (lim dif); rw [e1]
          refine hK.out _ _ hl (fun h168 => ?_)
          have b171 := hc _ _ _ b166 (by omega)
          clear hK K e1 hl hc
          refine wpAnyH_done (by kernel_rfl) ?_ _
          simp only [Act.put]; go_wp2_with fail; go_meet
          exact ⟨_, _, rfl, rfl, ((h168.add b171.z b171.n).add b170.z b170.n)⟩
         exact AllReadyH.nil
        exact AllReadyH.nil
       exact AllReadyH.nil
      exact AllReadyH.nil
     exact AllReadyH.nil
    refine AllReadyH.cons (o := p1_15) rfl (fun K hK => ?_) ?_
    ·
     unfold p1_15; go_simp; obtain ⟨g173, w175, e1, e2, hl, b174, hc⟩ := LS.mk27 hst; rw [e1, e2]
     refine hK.out _ _ hl (fun h172 => ?_)
     clear hK K e1 e2 hl hc
     refine wpAnyH_ready (rs := [6, 14]) (by kernel_rfl) (by simp) ?_
     refine AllReadyH.cons (o := p1_6) rfl (fun K hK => ?_) ?_
     ·
      unfold p1_6; go_simp; refine (K_sum.out _).mono ?_; rintro e w176 ⟨rfl, hb⟩
      refine hK.out _ _ (h172.call hb) (fun h176 => ?_)
      have b177 := b174.call hb
      clear hK K hb
      refine wpAnyH_ready (rs := [13, 14]) (by kernel_rfl) (by simp) ?_
      refine AllReadyH.cons (o := p1_13) rfl (fun K hK => ?_) ?_
      ·
       unfold p1_13; go_simp; refine (K_dif.out _).mono ?_; rintro e w178 ⟨rfl, hb⟩
       refine hK.out _ _ (h176.call hb) (fun h178 => ?_)
       have b179 := b177.call hb
       clear hK K hb
       refine wpAnyH_ready (rs := [14]) (by kernel_rfl) (by simp) ?_
       refine AllReadyH.cons (o := p1_14) rfl (fun K hK => ?_) ?_
       ·
        unfold p1_14; go_simp; obtain ⟨g181, w183, e1, e2, hl, b182, hc⟩ := LS.mk27 h178; rw [e1, e2]
        refine hK.out _ _ hl (fun h180 => ?_)
        obtain ⟨b184, d185⟩ := hc _ _ _ b179
        clear hK K e1 e2 hl hc
        refine wpAnyH_ready (rs := [16]) (by kernel_rfl) (by simp) ?_
        refine AllReadyH.cons (o := p1_16) rfl (fun K hK => ?_) ?_
        ·
         unfold p1_16; refine step_store27 rfl _ _ rfl g181 (lim sum) [0, 0, 0, 0] rfl rfl b182.n rfl rfl ?_
         obtain ⟨w187, e1, hl, b188, hc⟩ := LS.wr h180 b182 (lim sum); rw [e1]
         refine hK.out _ _ hl (fun h186 => ?_)
         have b189 := hc _ _ _ b184 (by omega)
         clear hK K e1 hl hc
         refine wpAnyH_ready (rs := [17]) (by kernel_rfl) (by simp) ?_
         refine AllReadyH.cons (o := p1_17) rfl (fun K hK => ?_) ?_
         ·
          unfold p1_17; refine step_store27 rfl _ _ rfl g173 (lim dif) [0, 0, 0, 0] rfl rfl b189.n rfl rfl ?_
          obtain ⟨w191, e1, hl, b192, hc⟩ := LS.wr h186 b189 (lim dif); rw [e1]
          refine hK.out _ _ hl (fun h190 => ?_)
          have b193 := hc _ _ _ b188 (by omega)
          clear hK K e1 hl hc
          refine wpAnyH_done (by kernel_rfl) ?_ _
          simp only [Act.put]; go_wp2_with fail; go_meet
          exact ⟨_, _, rfl, rfl, ((h190.add b193.z b193.n).add b192.z b192.n)⟩
         exact AllReadyH.nil
        exact AllReadyH.nil
       exact AllReadyH.nil
      refine AllReadyH.cons (o := p1_14) rfl (fun K hK => ?_) ?_
      ·
       unfold p1_14; go_simp; obtain ⟨g195, w197, e1, e2, hl, b196, hc⟩ := LS.mk27 h176; rw [e1, e2]
       refine hK.out _ _ hl (fun h194 => ?_)
       obtain ⟨b198, d199⟩ := hc _ _ _ b177
       clear hK K e1 e2 hl hc
       refine wpAnyH_ready (rs := [13]) (by kernel_rfl) (by simp) ?_
       refine AllReadyH.cons (o := p1_13) rfl (fun K hK => ?_) ?_
       ·
        unfold p1_13; go_simp; refine (K_dif.out _).mono ?_; rintro e w200 ⟨rfl, hb⟩
        refine hK.out _ _ (h194.call hb) (fun h200 => ?_)
        have b201 := b198.call hb
        have b202 := b196.call hb
        clear hK K hb
        refine wpAnyH_ready (rs := [16]) (by kernel_rfl) (by simp) ?_
        refine AllReadyH.cons (o := p1_16) rfl (fun K hK => ?_) ?_
        ·
         unfold p1_16; refine step_store27 rfl _ _ rfl g195 (lim sum) [0, 0, 0, 0] rfl rfl b202.n rfl rfl ?_
         obtain ⟨w204, e1, hl, b205, hc⟩ := LS.wr h200 b202 (lim sum); rw [e1]
         refine hK.out _ _ hl (fun h203 => ?_)
         have b206 := hc _ _ _ b201 (by omega)
         clear hK K e1 hl hc
         refine wpAnyH_ready (rs := [17]) (by kernel_rfl) (by simp) ?_
         refine AllReadyH.cons (o := p1_17) rfl (fun K hK => ?_) ?_
         ·
          unfold p1_17; refine step_store27 rfl _ _ rfl g173 (lim dif) [0, 0, 0, 0] rfl rfl b206.n rfl rfl ?_
          obtain ⟨w208, e1, hl, b209, hc⟩ := LS.wr h203 b206 (lim dif); rw [e1]
          refine hK.out _ _ hl (fun h207 => ?_)
          have b210 := hc _ _ _ b205 (by omega)
          clear hK K e1 hl hc
          refine wpAnyH_done (by kernel_rfl) ?_ _
          simp only [Act.put]; go_wp2_with fail; go_meet
          exact ⟨_, _, rfl, rfl, ((h207.add b210.z b210.n).add b209.z b209.n)⟩
         exact AllReadyH.nil
        exact AllReadyH.nil
       exact AllReadyH.nil
      exact AllReadyH.nil
     refine AllReadyH.cons (o := p1_14) rfl (fun K hK => ?_) ?_
     ·
      unfold p1_14; go_simp; obtain ⟨g212, w214, e1, e2, hl, b213, hc⟩ := LS.mk27 h172; rw [e1, e2]
      refine hK.out _ _ hl (fun h211 => ?_)
      obtain ⟨b215, d216⟩ := hc _ _ _ b174
      clear hK K e1 e2 hl hc
      refine wpAnyH_ready (rs := [6]) (by kernel_rfl) (by simp) ?_
      refine AllReadyH.cons (o := p1_6) rfl (fun K hK => ?_) ?_
      ·
       unfold p1_6; go_simp; refine (K_sum.out _).mono ?_; rintro e w217 ⟨rfl, hb⟩
       refine hK.out _ _ (h211.call hb) (fun h217 => ?_)
       have b218 := b215.call hb
       have b219 := b213.call hb
       clear hK K hb
       refine wpAnyH_ready (rs := [13]) (by kernel_rfl) (by simp) ?_
       refine AllReadyH.cons (o := p1_13) rfl (fun K hK => ?_) ?_
       ·
        unfold p1_13; go_simp; refine (K_dif.out _).mono ?_; rintro e w220 ⟨rfl, hb⟩
        refine hK.out _ _ (h217.call hb) (fun h220 => ?_)
        have b221 := b218.call hb
        have b222 := b219.call hb
        clear hK K hb
        refine wpAnyH_ready (rs := [16]) (by kernel_rfl) (by simp) ?_
        refine AllReadyH.cons (o := p1_16) rfl (fun K hK => ?_) ?_
        ·
         unfold p1_16; refine step_store27 rfl _ _ rfl g212 (lim sum) [0, 0, 0, 0] rfl rfl b222.n rfl rfl ?_
         obtain ⟨w224, e1, hl, b225, hc⟩ := LS.wr h220 b222 (lim sum); rw [e1]
         refine hK.out _ _ hl (fun h223 => ?_)
         have b226 := hc _ _ _ b221 (by omega)
         clear hK K e1 hl hc
         refine wpAnyH_ready (rs := [17]) (by kernel_rfl) (by simp) ?_
         refine AllReadyH.cons (o := p1_17) rfl (fun K hK => ?_) ?_
         ·
          unfold p1_17; refine step_store27 rfl _ _ rfl g173 (lim dif) [0, 0, 0, 0] rfl rfl b226.n rfl rfl ?_
          obtain ⟨w228, e1, hl, b229, hc⟩ := LS.wr h223 b226 (lim dif); rw [e1]
          refine hK.out _ _ hl (fun h227 => ?_)
          have b230 := hc _ _ _ b225 (by omega)
          clear hK K e1 hl hc
          refine wpAnyH_done (by kernel_rfl) ?_ _
          simp only [Act.put]; go_wp2_with fail; go_meet
          exact ⟨_, _, rfl, rfl, ((h227.add b230.z b230.n).add b229.z b229.n)⟩
         exact AllReadyH.nil
        exact AllReadyH.nil
       exact AllReadyH.nil
      exact AllReadyH.nil
     exact AllReadyH.nil
    exact AllReadyH.nil
  case rest =>
    clear HL
    obtain ⟨g5, g6, rfl, rfl, hL⟩ := hcut
    have HL := Lib.hid hL
    clear hL
    go_upto_region 2 with fail
    go_cut [7, 8] (fun s7 s8 wc => ∃ g7 g8, s7 = .pointer (some ⟨g7, 0, none⟩) ∧ s8 = .pointer (some ⟨g8, 0, none⟩) ∧ LS w ((g8, lim bb, 27) :: (g7, lim aa, 27) :: (g6, lim dif, 27) :: (g5, lim sum, 27) :: [(w.heap.size, Q4 x z s t, 76), (w.heap.size + 1, lim u, 27), (w.heap.size + 1 + 1, Q4 0 0 0 0, 76)]) wc)
    case first =>
      refine wp_region_held_drew (S := LS w ((g6, lim dif, 27) :: (g5, lim sum, 27) :: [(w.heap.size, Q4 x z s t, 76), (w.heap.size + 1, lim u, 27), (w.heap.size + 1 + 1, Q4 0 0 0 0, 76)])) (by kernel_rfl) HL.out.drew (fun hst => ?_)
      obtain ⟨wd, hwd⟩ : ∃ y, wc.drew = y := ⟨_, rfl⟩
      rw [hwd] at hst ⊢
      clear hwd
      refine wpAnyH_take (i := 0) (oi := p2_0) (v := .agg (Ls (lim sum))) rfl (by kernel_rfl) (by kernel_rfl) (by kernel_rfl) (fun _ _ _ h => h) (yloadM (by rfl) _ rfl g5 0 (lim sum) (lim sum) 27 rfl (by simp) rfl (rfl)) hst ?_
      unfold p2_0; simp only [Act.put, List.setIfInBounds_toArray, List.set_cons_zero, List.set_cons_succ]
      refine wpAnyH_take (i := 2) (oi := p2_2) (v := .agg (Ls (lim dif))) rfl (by kernel_rfl) (by kernel_rfl) (by kernel_rfl) (fun _ _ _ h => h) (yloadM (by rfl) _ rfl g6 0 (lim dif) (lim dif) 27 rfl (by simp) rfl (rfl)) hst ?_
      unfold p2_2; simp only [Act.put, List.setIfInBounds_toArray, List.set_cons_zero, List.set_cons_succ]
      refine wpAnyH_ready (rs := [1, 4, 5]) (by kernel_rfl) (by simp) ?_
      refine AllReadyH.cons (o := p2_1) rfl (fun K hK => ?_) ?_
      ·
       unfold p2_1; go_simp; refine (K_aa.out _).mono ?_; rintro e w1 ⟨rfl, hb⟩
       refine hK.out _ _ (hst.call hb) (fun h1 => ?_)
       clear hK K hb
       refine wpAnyH_ready (rs := [3, 4, 5]) (by kernel_rfl) (by simp) ?_
       refine AllReadyH.cons (o := p2_3) rfl (fun K hK => ?_) ?_
       ·
        unfold p2_3; go_simp; refine (K_bb.out _).mono ?_; rintro e w2 ⟨rfl, hb⟩
        refine hK.out _ _ (h1.call hb) (fun h2 => ?_)
        clear hK K hb
        refine wpAnyH_ready (rs := [4, 5]) (by kernel_rfl) (by simp) ?_
        refine AllReadyH.cons (o := p2_4) rfl (fun K hK => ?_) ?_
        ·
         unfold p2_4; go_simp; obtain ⟨g4, w6, e1, e2, hl, b5, hc⟩ := LS.mk27 h2; rw [e1, e2]
         refine hK.out _ _ hl (fun h3 => ?_)
         clear hK K e1 e2 hl hc
         refine wpAnyH_ready (rs := [5]) (by kernel_rfl) (by simp) ?_
         refine AllReadyH.cons (o := p2_5) rfl (fun K hK => ?_) ?_
         ·
          unfold p2_5; go_simp; obtain ⟨g8, w10, e1, e2, hl, b9, hc⟩ := LS.mk27 h3; rw [e1, e2]
          refine hK.out _ _ hl (fun h7 => ?_)
          obtain ⟨b11, d12⟩ := hc _ _ _ b5
          clear hK K e1 e2 hl hc
          refine wpAnyH_ready (rs := [6]) (by kernel_rfl) (by simp) ?_
          refine AllReadyH.cons (o := p2_6) rfl (fun K hK => ?_) ?_
          ·
           unfold p2_6; refine step_store27 rfl _ _ rfl g4 (lim aa) [0, 0, 0, 0] rfl rfl b11.n rfl rfl ?_
           obtain ⟨w14, e1, hl, b15, hc⟩ := LS.wr h7 b11 (lim aa); rw [e1]
           refine hK.out _ _ hl (fun h13 => ?_)
           have b16 := hc _ _ _ b9 (by omega)
           clear hK K e1 hl hc
           refine wpAnyH_ready (rs := [7]) (by kernel_rfl) (by simp) ?_
           refine AllReadyH.cons (o := p2_7) rfl (fun K hK => ?_) ?_
           ·
            unfold p2_7; refine step_store27 rfl _ _ rfl g8 (lim bb) [0, 0, 0, 0] rfl rfl b16.n rfl rfl ?_
            obtain ⟨w18, e1, hl, b19, hc⟩ := LS.wr h13 b16 (lim bb); rw [e1]
            refine hK.out _ _ hl (fun h17 => ?_)
            have b20 := hc _ _ _ b15 (by omega)
            clear hK K e1 hl hc
            refine wpAnyH_done (by kernel_rfl) ?_ _
            simp only [Act.put]; go_wp2_with fail; go_meet
            exact ⟨_, _, rfl, rfl, ((h17.add b20.z b20.n).add b19.z b19.n)⟩
           exact AllReadyH.nil
          exact AllReadyH.nil
         exact AllReadyH.nil
        refine AllReadyH.cons (o := p2_5) rfl (fun K hK => ?_) ?_
        ·
         unfold p2_5; go_simp; obtain ⟨g22, w24, e1, e2, hl, b23, hc⟩ := LS.mk27 h2; rw [e1, e2]
         refine hK.out _ _ hl (fun h21 => ?_)
         clear hK K e1 e2 hl hc
         refine wpAnyH_ready (rs := [4]) (by kernel_rfl) (by simp) ?_
         refine AllReadyH.cons (o := p2_4) rfl (fun K hK => ?_) ?_
         ·
          unfold p2_4; go_simp; obtain ⟨g26, w28, e1, e2, hl, b27, hc⟩ := LS.mk27 h21; rw [e1, e2]
          refine hK.out _ _ hl (fun h25 => ?_)
          obtain ⟨b29, d30⟩ := hc _ _ _ b23
          clear hK K e1 e2 hl hc
          refine wpAnyH_ready (rs := [6]) (by kernel_rfl) (by simp) ?_
          refine AllReadyH.cons (o := p2_6) rfl (fun K hK => ?_) ?_
          ·
           unfold p2_6; refine step_store27 rfl _ _ rfl g26 (lim aa) [0, 0, 0, 0] rfl rfl b27.n rfl rfl ?_
           obtain ⟨w32, e1, hl, b33, hc⟩ := LS.wr h25 b27 (lim aa); rw [e1]
           refine hK.out _ _ hl (fun h31 => ?_)
           have b34 := hc _ _ _ b29 (by omega)
           clear hK K e1 hl hc
           refine wpAnyH_ready (rs := [7]) (by kernel_rfl) (by simp) ?_
           refine AllReadyH.cons (o := p2_7) rfl (fun K hK => ?_) ?_
           ·
            unfold p2_7; refine step_store27 rfl _ _ rfl g22 (lim bb) [0, 0, 0, 0] rfl rfl b34.n rfl rfl ?_
            obtain ⟨w36, e1, hl, b37, hc⟩ := LS.wr h31 b34 (lim bb); rw [e1]
            refine hK.out _ _ hl (fun h35 => ?_)
            have b38 := hc _ _ _ b33 (by omega)
            clear hK K e1 hl hc
            refine wpAnyH_done (by kernel_rfl) ?_ _
            simp only [Act.put]; go_wp2_with fail; go_meet
            exact ⟨_, _, rfl, rfl, ((h35.add b38.z b38.n).add b37.z b37.n)⟩
           exact AllReadyH.nil
          exact AllReadyH.nil
         exact AllReadyH.nil
        exact AllReadyH.nil
       refine AllReadyH.cons (o := p2_4) rfl (fun K hK => ?_) ?_
       ·
        unfold p2_4; go_simp; obtain ⟨g40, w42, e1, e2, hl, b41, hc⟩ := LS.mk27 h1; rw [e1, e2]
        refine hK.out _ _ hl (fun h39 => ?_)
        clear hK K e1 e2 hl hc
        refine wpAnyH_ready (rs := [3, 5]) (by kernel_rfl) (by simp) ?_
        refine AllReadyH.cons (o := p2_3) rfl (fun K hK => ?_) ?_
        ·
         unfold p2_3; go_simp; refine (K_bb.out _).mono ?_; rintro e w43 ⟨rfl, hb⟩
         refine hK.out _ _ (h39.call hb) (fun h43 => ?_)
         have b44 := b41.call hb
         clear hK K hb
         refine wpAnyH_ready (rs := [5]) (by kernel_rfl) (by simp) ?_
         refine AllReadyH.cons (o := p2_5) rfl (fun K hK => ?_) ?_
         ·
          unfold p2_5; go_simp; obtain ⟨g46, w48, e1, e2, hl, b47, hc⟩ := LS.mk27 h43; rw [e1, e2]
          refine hK.out _ _ hl (fun h45 => ?_)
          obtain ⟨b49, d50⟩ := hc _ _ _ b44
          clear hK K e1 e2 hl hc
          refine wpAnyH_ready (rs := [6]) (by kernel_rfl) (by simp) ?_
          refine AllReadyH.cons (o := p2_6) rfl (fun K hK => ?_) ?_
          ·
           unfold p2_6; refine step_store27 rfl _ _ rfl g40 (lim aa) [0, 0, 0, 0] rfl rfl b49.n rfl rfl ?_
           obtain ⟨w52, e1, hl, b53, hc⟩ := LS.wr h45 b49 (lim aa); rw [e1]
           refine hK.out _ _ hl (fun h51 => ?_)
           have b54 := hc _ _ _ b47 (by omega)
           clear hK K e1 hl hc
           refine wpAnyH_ready (rs := [7]) (by kernel_rfl) (by simp) ?_
           refine AllReadyH.cons (o := p2_7) rfl (fun K hK => ?_) ?_
           ·
            unfold p2_7; refine step_store27 rfl _ _ rfl g46 (lim bb) [0, 0, 0, 0] rfl rfl b54.n rfl rfl ?_
            obtain ⟨w56, e1, hl, b57, hc⟩ := LS.wr h51 b54 (lim bb); rw [e1]
            refine hK.out _ _ hl (fun h55 => ?_)
            have b58 := hc _ _ _ b53 (by omega)
            clear hK K e1 hl hc
            refine wpAnyH_done (by kernel_rfl) ?_ _
            simp only [Act.put]; go_wp2_with fail; go_meet
            exact ⟨_, _, rfl, rfl, ((h55.add b58.z b58.n).add b57.z b57.n)⟩
           exact AllReadyH.nil
          exact AllReadyH.nil
         exact AllReadyH.nil
        refine AllReadyH.cons (o := p2_5) rfl (fun K hK => ?_) ?_
        ·
         unfold p2_5; go_simp; obtain ⟨g60, w62, e1, e2, hl, b61, hc⟩ := LS.mk27 h39; rw [e1, e2]
         refine hK.out _ _ hl (fun h59 => ?_)
         obtain ⟨b63, d64⟩ := hc _ _ _ b41
         clear hK K e1 e2 hl hc
         refine wpAnyH_ready (rs := [3]) (by kernel_rfl) (by simp) ?_
         refine AllReadyH.cons (o := p2_3) rfl (fun K hK => ?_) ?_
         ·
          unfold p2_3; go_simp; refine (K_bb.out _).mono ?_; rintro e w65 ⟨rfl, hb⟩
          refine hK.out _ _ (h59.call hb) (fun h65 => ?_)
          have b66 := b63.call hb
          have b67 := b61.call hb
          clear hK K hb
          refine wpAnyH_ready (rs := [6]) (by kernel_rfl) (by simp) ?_
          refine AllReadyH.cons (o := p2_6) rfl (fun K hK => ?_) ?_
          ·
           unfold p2_6; refine step_store27 rfl _ _ rfl g40 (lim aa) [0, 0, 0, 0] rfl rfl b66.n rfl rfl ?_
           obtain ⟨w69, e1, hl, b70, hc⟩ := LS.wr h65 b66 (lim aa); rw [e1]
           refine hK.out _ _ hl (fun h68 => ?_)
           have b71 := hc _ _ _ b67 (by omega)
           clear hK K e1 hl hc
           refine wpAnyH_ready (rs := [7]) (by kernel_rfl) (by simp) ?_
           refine AllReadyH.cons (o := p2_7) rfl (fun K hK => ?_) ?_
           ·
            unfold p2_7; refine step_store27 rfl _ _ rfl g60 (lim bb) [0, 0, 0, 0] rfl rfl b71.n rfl rfl ?_
            obtain ⟨w73, e1, hl, b74, hc⟩ := LS.wr h68 b71 (lim bb); rw [e1]
            refine hK.out _ _ hl (fun h72 => ?_)
            have b75 := hc _ _ _ b70 (by omega)
            clear hK K e1 hl hc
            refine wpAnyH_done (by kernel_rfl) ?_ _
            simp only [Act.put]; go_wp2_with fail; go_meet
            exact ⟨_, _, rfl, rfl, ((h72.add b75.z b75.n).add b74.z b74.n)⟩
           exact AllReadyH.nil
          exact AllReadyH.nil
         exact AllReadyH.nil
        exact AllReadyH.nil
       refine AllReadyH.cons (o := p2_5) rfl (fun K hK => ?_) ?_
       ·
        unfold p2_5; go_simp; obtain ⟨g77, w79, e1, e2, hl, b78, hc⟩ := LS.mk27 h1; rw [e1, e2]
        refine hK.out _ _ hl (fun h76 => ?_)
        clear hK K e1 e2 hl hc
        refine wpAnyH_ready (rs := [3, 4]) (by kernel_rfl) (by simp) ?_
        refine AllReadyH.cons (o := p2_3) rfl (fun K hK => ?_) ?_
        ·
         unfold p2_3; go_simp; refine (K_bb.out _).mono ?_; rintro e w80 ⟨rfl, hb⟩
         refine hK.out _ _ (h76.call hb) (fun h80 => ?_)
         have b81 := b78.call hb
         clear hK K hb
         refine wpAnyH_ready (rs := [4]) (by kernel_rfl) (by simp) ?_
         refine AllReadyH.cons (o := p2_4) rfl (fun K hK => ?_) ?_
         ·
          unfold p2_4; go_simp; obtain ⟨g83, w85, e1, e2, hl, b84, hc⟩ := LS.mk27 h80; rw [e1, e2]
          refine hK.out _ _ hl (fun h82 => ?_)
          obtain ⟨b86, d87⟩ := hc _ _ _ b81
          clear hK K e1 e2 hl hc
          refine wpAnyH_ready (rs := [6]) (by kernel_rfl) (by simp) ?_
          refine AllReadyH.cons (o := p2_6) rfl (fun K hK => ?_) ?_
          ·
           unfold p2_6; refine step_store27 rfl _ _ rfl g83 (lim aa) [0, 0, 0, 0] rfl rfl b84.n rfl rfl ?_
           obtain ⟨w89, e1, hl, b90, hc⟩ := LS.wr h82 b84 (lim aa); rw [e1]
           refine hK.out _ _ hl (fun h88 => ?_)
           have b91 := hc _ _ _ b86 (by omega)
           clear hK K e1 hl hc
           refine wpAnyH_ready (rs := [7]) (by kernel_rfl) (by simp) ?_
           refine AllReadyH.cons (o := p2_7) rfl (fun K hK => ?_) ?_
           ·
            unfold p2_7; refine step_store27 rfl _ _ rfl g77 (lim bb) [0, 0, 0, 0] rfl rfl b91.n rfl rfl ?_
            obtain ⟨w93, e1, hl, b94, hc⟩ := LS.wr h88 b91 (lim bb); rw [e1]
            refine hK.out _ _ hl (fun h92 => ?_)
            have b95 := hc _ _ _ b90 (by omega)
            clear hK K e1 hl hc
            refine wpAnyH_done (by kernel_rfl) ?_ _
            simp only [Act.put]; go_wp2_with fail; go_meet
            exact ⟨_, _, rfl, rfl, ((h92.add b95.z b95.n).add b94.z b94.n)⟩
           exact AllReadyH.nil
          exact AllReadyH.nil
         exact AllReadyH.nil
        refine AllReadyH.cons (o := p2_4) rfl (fun K hK => ?_) ?_
        ·
         unfold p2_4; go_simp; obtain ⟨g97, w99, e1, e2, hl, b98, hc⟩ := LS.mk27 h76; rw [e1, e2]
         refine hK.out _ _ hl (fun h96 => ?_)
         obtain ⟨b100, d101⟩ := hc _ _ _ b78
         clear hK K e1 e2 hl hc
         refine wpAnyH_ready (rs := [3]) (by kernel_rfl) (by simp) ?_
         refine AllReadyH.cons (o := p2_3) rfl (fun K hK => ?_) ?_
         ·
          unfold p2_3; go_simp; refine (K_bb.out _).mono ?_; rintro e w102 ⟨rfl, hb⟩
          refine hK.out _ _ (h96.call hb) (fun h102 => ?_)
          have b103 := b100.call hb
          have b104 := b98.call hb
          clear hK K hb
          refine wpAnyH_ready (rs := [6]) (by kernel_rfl) (by simp) ?_
          refine AllReadyH.cons (o := p2_6) rfl (fun K hK => ?_) ?_
          ·
           unfold p2_6; refine step_store27 rfl _ _ rfl g97 (lim aa) [0, 0, 0, 0] rfl rfl b104.n rfl rfl ?_
           obtain ⟨w106, e1, hl, b107, hc⟩ := LS.wr h102 b104 (lim aa); rw [e1]
           refine hK.out _ _ hl (fun h105 => ?_)
           have b108 := hc _ _ _ b103 (by omega)
           clear hK K e1 hl hc
           refine wpAnyH_ready (rs := [7]) (by kernel_rfl) (by simp) ?_
           refine AllReadyH.cons (o := p2_7) rfl (fun K hK => ?_) ?_
           ·
            unfold p2_7; refine step_store27 rfl _ _ rfl g77 (lim bb) [0, 0, 0, 0] rfl rfl b108.n rfl rfl ?_
            obtain ⟨w110, e1, hl, b111, hc⟩ := LS.wr h105 b108 (lim bb); rw [e1]
            refine hK.out _ _ hl (fun h109 => ?_)
            have b112 := hc _ _ _ b107 (by omega)
            clear hK K e1 hl hc
            refine wpAnyH_done (by kernel_rfl) ?_ _
            simp only [Act.put]; go_wp2_with fail; go_meet
            exact ⟨_, _, rfl, rfl, ((h109.add b112.z b112.n).add b111.z b111.n)⟩
           exact AllReadyH.nil
          exact AllReadyH.nil
         exact AllReadyH.nil
        exact AllReadyH.nil
       exact AllReadyH.nil
      refine AllReadyH.cons (o := p2_4) rfl (fun K hK => ?_) ?_
      ·
       unfold p2_4; go_simp; obtain ⟨g114, w116, e1, e2, hl, b115, hc⟩ := LS.mk27 hst; rw [e1, e2]
       refine hK.out _ _ hl (fun h113 => ?_)
       clear hK K e1 e2 hl hc
       refine wpAnyH_ready (rs := [1, 5]) (by kernel_rfl) (by simp) ?_
       refine AllReadyH.cons (o := p2_1) rfl (fun K hK => ?_) ?_
       ·
        unfold p2_1; go_simp; refine (K_aa.out _).mono ?_; rintro e w117 ⟨rfl, hb⟩
        refine hK.out _ _ (h113.call hb) (fun h117 => ?_)
        have b118 := b115.call hb
        clear hK K hb
        refine wpAnyH_ready (rs := [3, 5]) (by kernel_rfl) (by simp) ?_
        refine AllReadyH.cons (o := p2_3) rfl (fun K hK => ?_) ?_
        ·
         unfold p2_3; go_simp; refine (K_bb.out _).mono ?_; rintro e w119 ⟨rfl, hb⟩
         refine hK.out _ _ (h117.call hb) (fun h119 => ?_)
         have b120 := b118.call hb
         clear hK K hb
         refine wpAnyH_ready (rs := [5]) (by kernel_rfl) (by simp) ?_
         refine AllReadyH.cons (o := p2_5) rfl (fun K hK => ?_) ?_
         ·
          unfold p2_5; go_simp; obtain ⟨g122, w124, e1, e2, hl, b123, hc⟩ := LS.mk27 h119; rw [e1, e2]
          refine hK.out _ _ hl (fun h121 => ?_)
          obtain ⟨b125, d126⟩ := hc _ _ _ b120
          clear hK K e1 e2 hl hc
          refine wpAnyH_ready (rs := [6]) (by kernel_rfl) (by simp) ?_
          refine AllReadyH.cons (o := p2_6) rfl (fun K hK => ?_) ?_
          ·
           unfold p2_6; refine step_store27 rfl _ _ rfl g114 (lim aa) [0, 0, 0, 0] rfl rfl b125.n rfl rfl ?_
           obtain ⟨w128, e1, hl, b129, hc⟩ := LS.wr h121 b125 (lim aa); rw [e1]
           refine hK.out _ _ hl (fun h127 => ?_)
           have b130 := hc _ _ _ b123 (by omega)
           clear hK K e1 hl hc
           refine wpAnyH_ready (rs := [7]) (by kernel_rfl) (by simp) ?_
           refine AllReadyH.cons (o := p2_7) rfl (fun K hK => ?_) ?_
           ·
            unfold p2_7; refine step_store27 rfl _ _ rfl g122 (lim bb) [0, 0, 0, 0] rfl rfl b130.n rfl rfl ?_
            obtain ⟨w132, e1, hl, b133, hc⟩ := LS.wr h127 b130 (lim bb); rw [e1]
            refine hK.out _ _ hl (fun h131 => ?_)
            have b134 := hc _ _ _ b129 (by omega)
            clear hK K e1 hl hc
            refine wpAnyH_done (by kernel_rfl) ?_ _
            simp only [Act.put]; go_wp2_with fail; go_meet
            exact ⟨_, _, rfl, rfl, ((h131.add b134.z b134.n).add b133.z b133.n)⟩
           exact AllReadyH.nil
          exact AllReadyH.nil
         exact AllReadyH.nil
        refine AllReadyH.cons (o := p2_5) rfl (fun K hK => ?_) ?_
        ·
         unfold p2_5; go_simp; obtain ⟨g136, w138, e1, e2, hl, b137, hc⟩ := LS.mk27 h117; rw [e1, e2]
         refine hK.out _ _ hl (fun h135 => ?_)
         obtain ⟨b139, d140⟩ := hc _ _ _ b118
         clear hK K e1 e2 hl hc
         refine wpAnyH_ready (rs := [3]) (by kernel_rfl) (by simp) ?_
         refine AllReadyH.cons (o := p2_3) rfl (fun K hK => ?_) ?_
         ·
          unfold p2_3; go_simp; refine (K_bb.out _).mono ?_; rintro e w141 ⟨rfl, hb⟩
          refine hK.out _ _ (h135.call hb) (fun h141 => ?_)
          have b142 := b139.call hb
          have b143 := b137.call hb
          clear hK K hb
          refine wpAnyH_ready (rs := [6]) (by kernel_rfl) (by simp) ?_
          refine AllReadyH.cons (o := p2_6) rfl (fun K hK => ?_) ?_
          ·
           unfold p2_6; refine step_store27 rfl _ _ rfl g114 (lim aa) [0, 0, 0, 0] rfl rfl b142.n rfl rfl ?_
           obtain ⟨w145, e1, hl, b146, hc⟩ := LS.wr h141 b142 (lim aa); rw [e1]
           refine hK.out _ _ hl (fun h144 => ?_)
           have b147 := hc _ _ _ b143 (by omega)
           clear hK K e1 hl hc
           refine wpAnyH_ready (rs := [7]) (by kernel_rfl) (by simp) ?_
           refine AllReadyH.cons (o := p2_7) rfl (fun K hK => ?_) ?_
           ·
            unfold p2_7; refine step_store27 rfl _ _ rfl g136 (lim bb) [0, 0, 0, 0] rfl rfl b147.n rfl rfl ?_
            obtain ⟨w149, e1, hl, b150, hc⟩ := LS.wr h144 b147 (lim bb); rw [e1]
            refine hK.out _ _ hl (fun h148 => ?_)
            have b151 := hc _ _ _ b146 (by omega)
            clear hK K e1 hl hc
            refine wpAnyH_done (by kernel_rfl) ?_ _
            simp only [Act.put]; go_wp2_with fail; go_meet
            exact ⟨_, _, rfl, rfl, ((h148.add b151.z b151.n).add b150.z b150.n)⟩
           exact AllReadyH.nil
          exact AllReadyH.nil
         exact AllReadyH.nil
        exact AllReadyH.nil
       refine AllReadyH.cons (o := p2_5) rfl (fun K hK => ?_) ?_
       ·
        unfold p2_5; go_simp; obtain ⟨g153, w155, e1, e2, hl, b154, hc⟩ := LS.mk27 h113; rw [e1, e2]
        refine hK.out _ _ hl (fun h152 => ?_)
        obtain ⟨b156, d157⟩ := hc _ _ _ b115
        clear hK K e1 e2 hl hc
        refine wpAnyH_ready (rs := [1]) (by kernel_rfl) (by simp) ?_
        refine AllReadyH.cons (o := p2_1) rfl (fun K hK => ?_) ?_
        ·
         unfold p2_1; go_simp; refine (K_aa.out _).mono ?_; rintro e w158 ⟨rfl, hb⟩
         refine hK.out _ _ (h152.call hb) (fun h158 => ?_)
         have b159 := b156.call hb
         have b160 := b154.call hb
         clear hK K hb
         refine wpAnyH_ready (rs := [3]) (by kernel_rfl) (by simp) ?_
         refine AllReadyH.cons (o := p2_3) rfl (fun K hK => ?_) ?_
         ·
          unfold p2_3; go_simp; refine (K_bb.out _).mono ?_; rintro e w161 ⟨rfl, hb⟩
          refine hK.out _ _ (h158.call hb) (fun h161 => ?_)
          have b162 := b159.call hb
          have b163 := b160.call hb
          clear hK K hb
          refine wpAnyH_ready (rs := [6]) (by kernel_rfl) (by simp) ?_
          refine AllReadyH.cons (o := p2_6) rfl (fun K hK => ?_) ?_
          ·
           unfold p2_6; refine step_store27 rfl _ _ rfl g114 (lim aa) [0, 0, 0, 0] rfl rfl b162.n rfl rfl ?_
           obtain ⟨w165, e1, hl, b166, hc⟩ := LS.wr h161 b162 (lim aa); rw [e1]
           refine hK.out _ _ hl (fun h164 => ?_)
           have b167 := hc _ _ _ b163 (by omega)
           clear hK K e1 hl hc
           refine wpAnyH_ready (rs := [7]) (by kernel_rfl) (by simp) ?_
           refine AllReadyH.cons (o := p2_7) rfl (fun K hK => ?_) ?_
           ·
            unfold p2_7; refine step_store27 rfl _ _ rfl g153 (lim bb) [0, 0, 0, 0] rfl rfl b167.n rfl rfl ?_
            obtain ⟨w169, e1, hl, b170, hc⟩ := LS.wr h164 b167 (lim bb); rw [e1]
            refine hK.out _ _ hl (fun h168 => ?_)
            have b171 := hc _ _ _ b166 (by omega)
            clear hK K e1 hl hc
            refine wpAnyH_done (by kernel_rfl) ?_ _
            simp only [Act.put]; go_wp2_with fail; go_meet
            exact ⟨_, _, rfl, rfl, ((h168.add b171.z b171.n).add b170.z b170.n)⟩
           exact AllReadyH.nil
          exact AllReadyH.nil
         exact AllReadyH.nil
        exact AllReadyH.nil
       exact AllReadyH.nil
      refine AllReadyH.cons (o := p2_5) rfl (fun K hK => ?_) ?_
      ·
       unfold p2_5; go_simp; obtain ⟨g173, w175, e1, e2, hl, b174, hc⟩ := LS.mk27 hst; rw [e1, e2]
       refine hK.out _ _ hl (fun h172 => ?_)
       clear hK K e1 e2 hl hc
       refine wpAnyH_ready (rs := [1, 4]) (by kernel_rfl) (by simp) ?_
       refine AllReadyH.cons (o := p2_1) rfl (fun K hK => ?_) ?_
       ·
        unfold p2_1; go_simp; refine (K_aa.out _).mono ?_; rintro e w176 ⟨rfl, hb⟩
        refine hK.out _ _ (h172.call hb) (fun h176 => ?_)
        have b177 := b174.call hb
        clear hK K hb
        refine wpAnyH_ready (rs := [3, 4]) (by kernel_rfl) (by simp) ?_
        refine AllReadyH.cons (o := p2_3) rfl (fun K hK => ?_) ?_
        ·
         unfold p2_3; go_simp; refine (K_bb.out _).mono ?_; rintro e w178 ⟨rfl, hb⟩
         refine hK.out _ _ (h176.call hb) (fun h178 => ?_)
         have b179 := b177.call hb
         clear hK K hb
         refine wpAnyH_ready (rs := [4]) (by kernel_rfl) (by simp) ?_
         refine AllReadyH.cons (o := p2_4) rfl (fun K hK => ?_) ?_
         ·
          unfold p2_4; go_simp; obtain ⟨g181, w183, e1, e2, hl, b182, hc⟩ := LS.mk27 h178; rw [e1, e2]
          refine hK.out _ _ hl (fun h180 => ?_)
          obtain ⟨b184, d185⟩ := hc _ _ _ b179
          clear hK K e1 e2 hl hc
          refine wpAnyH_ready (rs := [6]) (by kernel_rfl) (by simp) ?_
          refine AllReadyH.cons (o := p2_6) rfl (fun K hK => ?_) ?_
          ·
           unfold p2_6; refine step_store27 rfl _ _ rfl g181 (lim aa) [0, 0, 0, 0] rfl rfl b182.n rfl rfl ?_
           obtain ⟨w187, e1, hl, b188, hc⟩ := LS.wr h180 b182 (lim aa); rw [e1]
           refine hK.out _ _ hl (fun h186 => ?_)
           have b189 := hc _ _ _ b184 (by omega)
           clear hK K e1 hl hc
           refine wpAnyH_ready (rs := [7]) (by kernel_rfl) (by simp) ?_
           refine AllReadyH.cons (o := p2_7) rfl (fun K hK => ?_) ?_
           ·
            unfold p2_7; refine step_store27 rfl _ _ rfl g173 (lim bb) [0, 0, 0, 0] rfl rfl b189.n rfl rfl ?_
            obtain ⟨w191, e1, hl, b192, hc⟩ := LS.wr h186 b189 (lim bb); rw [e1]
            refine hK.out _ _ hl (fun h190 => ?_)
            have b193 := hc _ _ _ b188 (by omega)
            clear hK K e1 hl hc
            refine wpAnyH_done (by kernel_rfl) ?_ _
            simp only [Act.put]; go_wp2_with fail; go_meet
            exact ⟨_, _, rfl, rfl, ((h190.add b193.z b193.n).add b192.z b192.n)⟩
           exact AllReadyH.nil
          exact AllReadyH.nil
         exact AllReadyH.nil
        refine AllReadyH.cons (o := p2_4) rfl (fun K hK => ?_) ?_
        ·
         unfold p2_4; go_simp; obtain ⟨g195, w197, e1, e2, hl, b196, hc⟩ := LS.mk27 h176; rw [e1, e2]
         refine hK.out _ _ hl (fun h194 => ?_)
         obtain ⟨b198, d199⟩ := hc _ _ _ b177
         clear hK K e1 e2 hl hc
         refine wpAnyH_ready (rs := [3]) (by kernel_rfl) (by simp) ?_
         refine AllReadyH.cons (o := p2_3) rfl (fun K hK => ?_) ?_
         ·
          unfold p2_3; go_simp; refine (K_bb.out _).mono ?_; rintro e w200 ⟨rfl, hb⟩
          refine hK.out _ _ (h194.call hb) (fun h200 => ?_)
          have b201 := b198.call hb
          have b202 := b196.call hb
          clear hK K hb
          refine wpAnyH_ready (rs := [6]) (by kernel_rfl) (by simp) ?_
          refine AllReadyH.cons (o := p2_6) rfl (fun K hK => ?_) ?_
          ·
           unfold p2_6; refine step_store27 rfl _ _ rfl g195 (lim aa) [0, 0, 0, 0] rfl rfl b202.n rfl rfl ?_
           obtain ⟨w204, e1, hl, b205, hc⟩ := LS.wr h200 b202 (lim aa); rw [e1]
           refine hK.out _ _ hl (fun h203 => ?_)
           have b206 := hc _ _ _ b201 (by omega)
           clear hK K e1 hl hc
           refine wpAnyH_ready (rs := [7]) (by kernel_rfl) (by simp) ?_
           refine AllReadyH.cons (o := p2_7) rfl (fun K hK => ?_) ?_
           ·
            unfold p2_7; refine step_store27 rfl _ _ rfl g173 (lim bb) [0, 0, 0, 0] rfl rfl b206.n rfl rfl ?_
            obtain ⟨w208, e1, hl, b209, hc⟩ := LS.wr h203 b206 (lim bb); rw [e1]
            refine hK.out _ _ hl (fun h207 => ?_)
            have b210 := hc _ _ _ b205 (by omega)
            clear hK K e1 hl hc
            refine wpAnyH_done (by kernel_rfl) ?_ _
            simp only [Act.put]; go_wp2_with fail; go_meet
            exact ⟨_, _, rfl, rfl, ((h207.add b210.z b210.n).add b209.z b209.n)⟩
           exact AllReadyH.nil
          exact AllReadyH.nil
         exact AllReadyH.nil
        exact AllReadyH.nil
       refine AllReadyH.cons (o := p2_4) rfl (fun K hK => ?_) ?_
       ·
        unfold p2_4; go_simp; obtain ⟨g212, w214, e1, e2, hl, b213, hc⟩ := LS.mk27 h172; rw [e1, e2]
        refine hK.out _ _ hl (fun h211 => ?_)
        obtain ⟨b215, d216⟩ := hc _ _ _ b174
        clear hK K e1 e2 hl hc
        refine wpAnyH_ready (rs := [1]) (by kernel_rfl) (by simp) ?_
        refine AllReadyH.cons (o := p2_1) rfl (fun K hK => ?_) ?_
        ·
         unfold p2_1; go_simp; refine (K_aa.out _).mono ?_; rintro e w217 ⟨rfl, hb⟩
         refine hK.out _ _ (h211.call hb) (fun h217 => ?_)
         have b218 := b215.call hb
         have b219 := b213.call hb
         clear hK K hb
         refine wpAnyH_ready (rs := [3]) (by kernel_rfl) (by simp) ?_
         refine AllReadyH.cons (o := p2_3) rfl (fun K hK => ?_) ?_
         ·
          unfold p2_3; go_simp; refine (K_bb.out _).mono ?_; rintro e w220 ⟨rfl, hb⟩
          refine hK.out _ _ (h217.call hb) (fun h220 => ?_)
          have b221 := b218.call hb
          have b222 := b219.call hb
          clear hK K hb
          refine wpAnyH_ready (rs := [6]) (by kernel_rfl) (by simp) ?_
          refine AllReadyH.cons (o := p2_6) rfl (fun K hK => ?_) ?_
          ·
           unfold p2_6; refine step_store27 rfl _ _ rfl g212 (lim aa) [0, 0, 0, 0] rfl rfl b222.n rfl rfl ?_
           obtain ⟨w224, e1, hl, b225, hc⟩ := LS.wr h220 b222 (lim aa); rw [e1]
           refine hK.out _ _ hl (fun h223 => ?_)
           have b226 := hc _ _ _ b221 (by omega)
           clear hK K e1 hl hc
           refine wpAnyH_ready (rs := [7]) (by kernel_rfl) (by simp) ?_
           refine AllReadyH.cons (o := p2_7) rfl (fun K hK => ?_) ?_
           ·
            unfold p2_7; refine step_store27 rfl _ _ rfl g173 (lim bb) [0, 0, 0, 0] rfl rfl b226.n rfl rfl ?_
            obtain ⟨w228, e1, hl, b229, hc⟩ := LS.wr h223 b226 (lim bb); rw [e1]
            refine hK.out _ _ hl (fun h227 => ?_)
            have b230 := hc _ _ _ b225 (by omega)
            clear hK K e1 hl hc
            refine wpAnyH_done (by kernel_rfl) ?_ _
            simp only [Act.put]; go_wp2_with fail; go_meet
            exact ⟨_, _, rfl, rfl, ((h227.add b230.z b230.n).add b229.z b229.n)⟩
           exact AllReadyH.nil
          exact AllReadyH.nil
         exact AllReadyH.nil
        exact AllReadyH.nil
       exact AllReadyH.nil
      exact AllReadyH.nil
    case rest =>
      clear HL
      obtain ⟨g7, g8, rfl, rfl, hL⟩ := hcut
      have HL := Lib.hid hL
      clear hL
      go_wp2_with (first | (refine load27 rfl _ rfl g7 (lim aa) rfl (HL.out.get g7 (lim aa) 27 (by simp)) rfl ?_) | (refine load27 rfl _ rfl g8 (lim bb) rfl (HL.out.get g8 (lim bb) 27 (by simp)) rfl ?_))
      with_reducible refine (K_ee.out _).mono ?_
      rintro e w4 ⟨rfl, hb⟩
      have HL4 := Lib.hid (HL.out.call hb)
      clear hb HL
      go_upto_region 4 with (refine store27 rfl _ _ rfl w4.heap.size (lim ee) [0, 0, 0, 0] rfl rfl HL4.out.new rfl rfl ?_)
      obtain ⟨w5, hw5⟩ : ∃ y, (w4.alloc (.cells #[.int .u64 0, .int .u64 0, .int .u64 0, .int .u64 0] 27)).setRow w4.heap.size (Ls (lim ee)) = y := ⟨_, rfl⟩
      rw [hw5]
      have hL : LS w ((w4.heap.size, lim ee, 27) :: (g8, lim bb, 27) :: (g7, lim aa, 27) :: (g6, lim dif, 27) :: (g5, lim sum, 27) :: [(w.heap.size, Q4 x z s t, 76), (w.heap.size + 1, lim u, 27), (w.heap.size + 1 + 1, Q4 0 0 0 0, 76)]) w5 := by rw [← hw5]; exact HL4.out.put (lim ee)
      obtain ⟨g9, hg9⟩ : ∃ y, w4.heap.size = y := ⟨_, rfl⟩
      rw [hg9] at hL ⊢
      have HL := Lib.hid hL
      clear hL hw5 hg9 HL4
      simp only [Act.put]
      go_cut [10] (fun s10 wc => ∃ g10, s10 = .pointer (some ⟨g10, 0, none⟩) ∧ LS w ((g10, lim cc, 27) :: (g9, lim ee, 27) :: (g8, lim bb, 27) :: (g7, lim aa, 27) :: (g6, lim dif, 27) :: (g5, lim sum, 27) :: [(w.heap.size, Q4 x z s t, 76), (w.heap.size + 1, lim u, 27), (w.heap.size + 1 + 1, Q4 0 0 0 0, 76)]) wc)
      case first =>
        refine wp_region_held_drew (S := LS w ((g9, lim ee, 27) :: (g8, lim bb, 27) :: (g7, lim aa, 27) :: (g6, lim dif, 27) :: (g5, lim sum, 27) :: [(w.heap.size, Q4 x z s t, 76), (w.heap.size + 1, lim u, 27), (w.heap.size + 1 + 1, Q4 0 0 0 0, 76)])) (by kernel_rfl) HL.out.drew (fun hst => ?_)
        obtain ⟨wd, hwd⟩ : ∃ y, w5.drew = y := ⟨_, rfl⟩
        rw [hwd] at hst ⊢
        clear hwd
        refine wpAnyH_take (i := 0) (oi := p4_0) (v := .agg (Ls (lim sum))) rfl (by kernel_rfl) (by kernel_rfl) (by kernel_rfl) (fun _ _ _ h => h) (yloadM (by rfl) _ rfl g5 0 (lim sum) (lim sum) 27 rfl (by simp) rfl (rfl)) hst ?_
        unfold p4_0; simp only [Act.put, List.setIfInBounds_toArray, List.set_cons_zero, List.set_cons_succ]
        refine wpAnyH_take (i := 1) (oi := p4_1) (v := .pointer (some ⟨w.heap.size, 8, none⟩)) rfl (by kernel_rfl) (by kernel_rfl) (by kernel_rfl) (fun _ _ _ h => h) (Or.inl ⟨by rfl, fun w' _ => by rfl⟩) hst ?_
        unfold p4_1; simp only [Act.put, List.setIfInBounds_toArray, List.set_cons_zero, List.set_cons_succ]
        refine wpAnyH_take (i := 2) (oi := p4_2) (v := .pointer (some ⟨w.heap.size, 8, none⟩)) rfl (by kernel_rfl) (by kernel_rfl) (by kernel_rfl) (fun _ _ _ h => h) (Or.inl ⟨by rfl, fun w' _ => by rfl⟩) hst ?_
        unfold p4_2; simp only [Act.put, List.setIfInBounds_toArray, List.set_cons_zero, List.set_cons_succ]
        refine wpAnyH_take (i := 3) (oi := p4_3) (v := .agg (Ls (lim s))) rfl (by kernel_rfl) (by kernel_rfl) (by kernel_rfl) (fun _ _ _ h => h) (yloadM (by rfl) _ rfl w.heap.size 8 (Q4 x z s t) (lim s) 76 rfl (by simp) rfl (P4_8 (lim_length x) (lim_length z) (lim_length s) (lim_length t))) hst ?_
        unfold p4_3; simp only [Act.put, List.setIfInBounds_toArray, List.set_cons_zero, List.set_cons_succ]
        refine wpAnyH_take (i := 4) (oi := p4_4) (v := .pointer (some ⟨w.heap.size, 8, none⟩)) rfl (by kernel_rfl) (by kernel_rfl) (by kernel_rfl) (fun _ _ _ h => h) (Or.inl ⟨by rfl, fun w' _ => by rfl⟩) hst ?_
        unfold p4_4; simp only [Act.put, List.setIfInBounds_toArray, List.set_cons_zero, List.set_cons_succ]
        refine wpAnyH_take (i := 5) (oi := p4_5) (v := .pointer (some ⟨w.heap.size, 12, none⟩)) rfl (by kernel_rfl) (by kernel_rfl) (by kernel_rfl) (fun _ _ _ h => h) (Or.inl ⟨by rfl, fun w' _ => by rfl⟩) hst ?_
        unfold p4_5; simp only [Act.put, List.setIfInBounds_toArray, List.set_cons_zero, List.set_cons_succ]
        refine wpAnyH_take (i := 6) (oi := p4_6) (v := .agg (Ls (lim t))) rfl (by kernel_rfl) (by kernel_rfl) (by kernel_rfl) (fun _ _ _ h => h) (yloadM (by rfl) _ rfl w.heap.size 12 (Q4 x z s t) (lim t) 76 rfl (by simp) rfl (P4_12 (lim_length x) (lim_length z) (lim_length s) (lim_length t))) hst ?_
        unfold p4_6; simp only [Act.put, List.setIfInBounds_toArray, List.set_cons_zero, List.set_cons_succ]
        refine wpAnyH_ready (rs := [7, 9]) (by kernel_rfl) (by simp) ?_
        refine AllReadyH.cons (o := p4_7) rfl (fun K hK => ?_) ?_
        ·
         unfold p4_7; go_simp; refine (K_sst.out _).mono ?_; rintro e w1 ⟨rfl, hb⟩
         refine hK.out _ _ (hst.call hb) (fun h1 => ?_)
         clear hK K hb
         refine wpAnyH_ready (rs := [8, 9]) (by kernel_rfl) (by simp) ?_
         refine AllReadyH.cons (o := p4_8) rfl (fun K hK => ?_) ?_
         ·
          unfold p4_8; go_simp; refine (K_cc.out _).mono ?_; rintro e w2 ⟨rfl, hb⟩
          refine hK.out _ _ (h1.call hb) (fun h2 => ?_)
          clear hK K hb
          refine wpAnyH_ready (rs := [9]) (by kernel_rfl) (by simp) ?_
          refine AllReadyH.cons (o := p4_9) rfl (fun K hK => ?_) ?_
          ·
           unfold p4_9; go_simp; obtain ⟨g4, w6, e1, e2, hl, b5, hc⟩ := LS.mk27 h2; rw [e1, e2]
           refine hK.out _ _ hl (fun h3 => ?_)
           clear hK K e1 e2 hl hc
           refine wpAnyH_ready (rs := [10]) (by kernel_rfl) (by simp) ?_
           refine AllReadyH.cons (o := p4_10) rfl (fun K hK => ?_) ?_
           ·
            unfold p4_10; refine step_store27 rfl _ _ rfl g4 (lim cc) [0, 0, 0, 0] rfl rfl b5.n rfl rfl ?_
            obtain ⟨w8, e1, hl, b9, hc⟩ := LS.wr h3 b5 (lim cc); rw [e1]
            refine hK.out _ _ hl (fun h7 => ?_)
            clear hK K e1 hl hc
            refine wpAnyH_done (by kernel_rfl) ?_ _
            simp only [Act.put]; go_wp2_with fail; go_meet
            exact ⟨_, rfl, (h7.add b9.z b9.n)⟩
           exact AllReadyH.nil
          exact AllReadyH.nil
         refine AllReadyH.cons (o := p4_9) rfl (fun K hK => ?_) ?_
         ·
          unfold p4_9; go_simp; obtain ⟨g11, w13, e1, e2, hl, b12, hc⟩ := LS.mk27 h1; rw [e1, e2]
          refine hK.out _ _ hl (fun h10 => ?_)
          clear hK K e1 e2 hl hc
          refine wpAnyH_ready (rs := [8]) (by kernel_rfl) (by simp) ?_
          refine AllReadyH.cons (o := p4_8) rfl (fun K hK => ?_) ?_
          ·
           unfold p4_8; go_simp; refine (K_cc.out _).mono ?_; rintro e w14 ⟨rfl, hb⟩
           refine hK.out _ _ (h10.call hb) (fun h14 => ?_)
           have b15 := b12.call hb
           clear hK K hb
           refine wpAnyH_ready (rs := [10]) (by kernel_rfl) (by simp) ?_
           refine AllReadyH.cons (o := p4_10) rfl (fun K hK => ?_) ?_
           ·
            unfold p4_10; refine step_store27 rfl _ _ rfl g11 (lim cc) [0, 0, 0, 0] rfl rfl b15.n rfl rfl ?_
            obtain ⟨w17, e1, hl, b18, hc⟩ := LS.wr h14 b15 (lim cc); rw [e1]
            refine hK.out _ _ hl (fun h16 => ?_)
            clear hK K e1 hl hc
            refine wpAnyH_done (by kernel_rfl) ?_ _
            simp only [Act.put]; go_wp2_with fail; go_meet
            exact ⟨_, rfl, (h16.add b18.z b18.n)⟩
           exact AllReadyH.nil
          exact AllReadyH.nil
         exact AllReadyH.nil
        refine AllReadyH.cons (o := p4_9) rfl (fun K hK => ?_) ?_
        ·
         unfold p4_9; go_simp; obtain ⟨g20, w22, e1, e2, hl, b21, hc⟩ := LS.mk27 hst; rw [e1, e2]
         refine hK.out _ _ hl (fun h19 => ?_)
         clear hK K e1 e2 hl hc
         refine wpAnyH_ready (rs := [7]) (by kernel_rfl) (by simp) ?_
         refine AllReadyH.cons (o := p4_7) rfl (fun K hK => ?_) ?_
         ·
          unfold p4_7; go_simp; refine (K_sst.out _).mono ?_; rintro e w23 ⟨rfl, hb⟩
          refine hK.out _ _ (h19.call hb) (fun h23 => ?_)
          have b24 := b21.call hb
          clear hK K hb
          refine wpAnyH_ready (rs := [8]) (by kernel_rfl) (by simp) ?_
          refine AllReadyH.cons (o := p4_8) rfl (fun K hK => ?_) ?_
          ·
           unfold p4_8; go_simp; refine (K_cc.out _).mono ?_; rintro e w25 ⟨rfl, hb⟩
           refine hK.out _ _ (h23.call hb) (fun h25 => ?_)
           have b26 := b24.call hb
           clear hK K hb
           refine wpAnyH_ready (rs := [10]) (by kernel_rfl) (by simp) ?_
           refine AllReadyH.cons (o := p4_10) rfl (fun K hK => ?_) ?_
           ·
            unfold p4_10; refine step_store27 rfl _ _ rfl g20 (lim cc) [0, 0, 0, 0] rfl rfl b26.n rfl rfl ?_
            obtain ⟨w28, e1, hl, b29, hc⟩ := LS.wr h25 b26 (lim cc); rw [e1]
            refine hK.out _ _ hl (fun h27 => ?_)
            clear hK K e1 hl hc
            refine wpAnyH_done (by kernel_rfl) ?_ _
            simp only [Act.put]; go_wp2_with fail; go_meet
            exact ⟨_, rfl, (h27.add b29.z b29.n)⟩
           exact AllReadyH.nil
          exact AllReadyH.nil
         exact AllReadyH.nil
        exact AllReadyH.nil
      case rest =>
        clear HL
        obtain ⟨g10, rfl, hL⟩ := hcut
        have HL := Lib.hid hL
        clear hL
        go_upto_region 5 with fail
        go_cut [11] (fun s11 wc => ∃ g11, s11 = .pointer (some ⟨g11, 0, none⟩) ∧ LS w ((g11, lim dd, 27) :: (g10, lim cc, 27) :: (g9, lim ee, 27) :: (g8, lim bb, 27) :: (g7, lim aa, 27) :: (g6, lim dif, 27) :: (g5, lim sum, 27) :: [(w.heap.size, Q4 x z s t, 76), (w.heap.size + 1, lim u, 27), (w.heap.size + 1 + 1, Q4 0 0 0 0, 76)]) wc)
        case first =>
          refine wp_region_held_drew (S := LS w ((g10, lim cc, 27) :: (g9, lim ee, 27) :: (g8, lim bb, 27) :: (g7, lim aa, 27) :: (g6, lim dif, 27) :: (g5, lim sum, 27) :: [(w.heap.size, Q4 x z s t, 76), (w.heap.size + 1, lim u, 27), (w.heap.size + 1 + 1, Q4 0 0 0 0, 76)])) (by kernel_rfl) HL.out.drew (fun hst => ?_)
          obtain ⟨wd, hwd⟩ : ∃ y, wc.drew = y := ⟨_, rfl⟩
          rw [hwd] at hst ⊢
          clear hwd
          refine wpAnyH_take (i := 0) (oi := p5_0) (v := .agg (Ls (lim dif))) rfl (by kernel_rfl) (by kernel_rfl) (by kernel_rfl) (fun _ _ _ h => h) (yloadM (by rfl) _ rfl g6 0 (lim dif) (lim dif) 27 rfl (by simp) rfl (rfl)) hst ?_
          unfold p5_0; simp only [Act.put, List.setIfInBounds_toArray, List.set_cons_zero, List.set_cons_succ]
          refine wpAnyH_take (i := 1) (oi := p5_1) (v := .pointer (some ⟨w.heap.size, 8, none⟩)) rfl (by kernel_rfl) (by kernel_rfl) (by kernel_rfl) (fun _ _ _ h => h) (Or.inl ⟨by rfl, fun w' _ => by rfl⟩) hst ?_
          unfold p5_1; simp only [Act.put, List.setIfInBounds_toArray, List.set_cons_zero, List.set_cons_succ]
          refine wpAnyH_take (i := 2) (oi := p5_2) (v := .pointer (some ⟨w.heap.size, 8, none⟩)) rfl (by kernel_rfl) (by kernel_rfl) (by kernel_rfl) (fun _ _ _ h => h) (Or.inl ⟨by rfl, fun w' _ => by rfl⟩) hst ?_
          unfold p5_2; simp only [Act.put, List.setIfInBounds_toArray, List.set_cons_zero, List.set_cons_succ]
          refine wpAnyH_take (i := 3) (oi := p5_3) (v := .agg (Ls (lim s))) rfl (by kernel_rfl) (by kernel_rfl) (by kernel_rfl) (fun _ _ _ h => h) (yloadM (by rfl) _ rfl w.heap.size 8 (Q4 x z s t) (lim s) 76 rfl (by simp) rfl (P4_8 (lim_length x) (lim_length z) (lim_length s) (lim_length t))) hst ?_
          unfold p5_3; simp only [Act.put, List.setIfInBounds_toArray, List.set_cons_zero, List.set_cons_succ]
          refine wpAnyH_take (i := 4) (oi := p5_4) (v := .pointer (some ⟨w.heap.size, 8, none⟩)) rfl (by kernel_rfl) (by kernel_rfl) (by kernel_rfl) (fun _ _ _ h => h) (Or.inl ⟨by rfl, fun w' _ => by rfl⟩) hst ?_
          unfold p5_4; simp only [Act.put, List.setIfInBounds_toArray, List.set_cons_zero, List.set_cons_succ]
          refine wpAnyH_take (i := 5) (oi := p5_5) (v := .pointer (some ⟨w.heap.size, 12, none⟩)) rfl (by kernel_rfl) (by kernel_rfl) (by kernel_rfl) (fun _ _ _ h => h) (Or.inl ⟨by rfl, fun w' _ => by rfl⟩) hst ?_
          unfold p5_5; simp only [Act.put, List.setIfInBounds_toArray, List.set_cons_zero, List.set_cons_succ]
          refine wpAnyH_take (i := 6) (oi := p5_6) (v := .agg (Ls (lim t))) rfl (by kernel_rfl) (by kernel_rfl) (by kernel_rfl) (fun _ _ _ h => h) (yloadM (by rfl) _ rfl w.heap.size 12 (Q4 x z s t) (lim t) 76 rfl (by simp) rfl (P4_12 (lim_length x) (lim_length z) (lim_length s) (lim_length t))) hst ?_
          unfold p5_6; simp only [Act.put, List.setIfInBounds_toArray, List.set_cons_zero, List.set_cons_succ]
          refine wpAnyH_ready (rs := [7, 9]) (by kernel_rfl) (by simp) ?_
          refine AllReadyH.cons (o := p5_7) rfl (fun K hK => ?_) ?_
          ·
           unfold p5_7; go_simp; refine (K_ast.out _).mono ?_; rintro e w1 ⟨rfl, hb⟩
           refine hK.out _ _ (hst.call hb) (fun h1 => ?_)
           clear hK K hb
           refine wpAnyH_ready (rs := [8, 9]) (by kernel_rfl) (by simp) ?_
           refine AllReadyH.cons (o := p5_8) rfl (fun K hK => ?_) ?_
           ·
            unfold p5_8; go_simp; refine (K_dd.out _).mono ?_; rintro e w2 ⟨rfl, hb⟩
            refine hK.out _ _ (h1.call hb) (fun h2 => ?_)
            clear hK K hb
            refine wpAnyH_ready (rs := [9]) (by kernel_rfl) (by simp) ?_
            refine AllReadyH.cons (o := p5_9) rfl (fun K hK => ?_) ?_
            ·
             unfold p5_9; go_simp; obtain ⟨g4, w6, e1, e2, hl, b5, hc⟩ := LS.mk27 h2; rw [e1, e2]
             refine hK.out _ _ hl (fun h3 => ?_)
             clear hK K e1 e2 hl hc
             refine wpAnyH_ready (rs := [10]) (by kernel_rfl) (by simp) ?_
             refine AllReadyH.cons (o := p5_10) rfl (fun K hK => ?_) ?_
             ·
              unfold p5_10; refine step_store27 rfl _ _ rfl g4 (lim dd) [0, 0, 0, 0] rfl rfl b5.n rfl rfl ?_
              obtain ⟨w8, e1, hl, b9, hc⟩ := LS.wr h3 b5 (lim dd); rw [e1]
              refine hK.out _ _ hl (fun h7 => ?_)
              clear hK K e1 hl hc
              refine wpAnyH_done (by kernel_rfl) ?_ _
              simp only [Act.put]; go_wp2_with fail; go_meet
              exact ⟨_, rfl, (h7.add b9.z b9.n)⟩
             exact AllReadyH.nil
            exact AllReadyH.nil
           refine AllReadyH.cons (o := p5_9) rfl (fun K hK => ?_) ?_
           ·
            unfold p5_9; go_simp; obtain ⟨g11, w13, e1, e2, hl, b12, hc⟩ := LS.mk27 h1; rw [e1, e2]
            refine hK.out _ _ hl (fun h10 => ?_)
            clear hK K e1 e2 hl hc
            refine wpAnyH_ready (rs := [8]) (by kernel_rfl) (by simp) ?_
            refine AllReadyH.cons (o := p5_8) rfl (fun K hK => ?_) ?_
            ·
             unfold p5_8; go_simp; refine (K_dd.out _).mono ?_; rintro e w14 ⟨rfl, hb⟩
             refine hK.out _ _ (h10.call hb) (fun h14 => ?_)
             have b15 := b12.call hb
             clear hK K hb
             refine wpAnyH_ready (rs := [10]) (by kernel_rfl) (by simp) ?_
             refine AllReadyH.cons (o := p5_10) rfl (fun K hK => ?_) ?_
             ·
              unfold p5_10; refine step_store27 rfl _ _ rfl g11 (lim dd) [0, 0, 0, 0] rfl rfl b15.n rfl rfl ?_
              obtain ⟨w17, e1, hl, b18, hc⟩ := LS.wr h14 b15 (lim dd); rw [e1]
              refine hK.out _ _ hl (fun h16 => ?_)
              clear hK K e1 hl hc
              refine wpAnyH_done (by kernel_rfl) ?_ _
              simp only [Act.put]; go_wp2_with fail; go_meet
              exact ⟨_, rfl, (h16.add b18.z b18.n)⟩
             exact AllReadyH.nil
            exact AllReadyH.nil
           exact AllReadyH.nil
          refine AllReadyH.cons (o := p5_9) rfl (fun K hK => ?_) ?_
          ·
           unfold p5_9; go_simp; obtain ⟨g20, w22, e1, e2, hl, b21, hc⟩ := LS.mk27 hst; rw [e1, e2]
           refine hK.out _ _ hl (fun h19 => ?_)
           clear hK K e1 e2 hl hc
           refine wpAnyH_ready (rs := [7]) (by kernel_rfl) (by simp) ?_
           refine AllReadyH.cons (o := p5_7) rfl (fun K hK => ?_) ?_
           ·
            unfold p5_7; go_simp; refine (K_ast.out _).mono ?_; rintro e w23 ⟨rfl, hb⟩
            refine hK.out _ _ (h19.call hb) (fun h23 => ?_)
            have b24 := b21.call hb
            clear hK K hb
            refine wpAnyH_ready (rs := [8]) (by kernel_rfl) (by simp) ?_
            refine AllReadyH.cons (o := p5_8) rfl (fun K hK => ?_) ?_
            ·
             unfold p5_8; go_simp; refine (K_dd.out _).mono ?_; rintro e w25 ⟨rfl, hb⟩
             refine hK.out _ _ (h23.call hb) (fun h25 => ?_)
             have b26 := b24.call hb
             clear hK K hb
             refine wpAnyH_ready (rs := [10]) (by kernel_rfl) (by simp) ?_
             refine AllReadyH.cons (o := p5_10) rfl (fun K hK => ?_) ?_
             ·
              unfold p5_10; refine step_store27 rfl _ _ rfl g20 (lim dd) [0, 0, 0, 0] rfl rfl b26.n rfl rfl ?_
              obtain ⟨w28, e1, hl, b29, hc⟩ := LS.wr h25 b26 (lim dd); rw [e1]
              refine hK.out _ _ hl (fun h27 => ?_)
              clear hK K e1 hl hc
              refine wpAnyH_done (by kernel_rfl) ?_ _
              simp only [Act.put]; go_wp2_with fail; go_meet
              exact ⟨_, rfl, (h27.add b29.z b29.n)⟩
             exact AllReadyH.nil
            exact AllReadyH.nil
           exact AllReadyH.nil
          exact AllReadyH.nil
        case rest =>
          clear HL
          obtain ⟨g11, rfl, hL⟩ := hcut
          have HL := Lib.hid hL
          clear hL
          go_upto_region 6 with fail
          go_cut [12] (fun s12 wc => ∃ g12, s12 = .pointer (some ⟨g12, 0, none⟩) ∧ LS w ((g12, lim xx ++ lim zz, 74) :: (g11, lim dd, 27) :: (g10, lim cc, 27) :: (g9, lim ee, 27) :: (g8, lim bb, 27) :: (g7, lim aa, 27) :: (g6, lim dif, 27) :: (g5, lim sum, 27) :: [(w.heap.size, Q4 x z s t, 76), (w.heap.size + 1, lim u, 27), (w.heap.size + 1 + 1, Q4 0 0 0 0, 76)]) wc)
          case first =>
            refine wp_region_held_drew (S := LS w ((g11, lim dd, 27) :: (g10, lim cc, 27) :: (g9, lim ee, 27) :: (g8, lim bb, 27) :: (g7, lim aa, 27) :: (g6, lim dif, 27) :: (g5, lim sum, 27) :: [(w.heap.size, Q4 x z s t, 76), (w.heap.size + 1, lim u, 27), (w.heap.size + 1 + 1, Q4 0 0 0 0, 76)])) (by kernel_rfl) HL.out.drew (fun hst => ?_)
            obtain ⟨wd, hwd⟩ : ∃ y, wc.drew = y := ⟨_, rfl⟩
            rw [hwd] at hst ⊢
            clear hwd
            refine wpAnyH_take (i := 0) (oi := p6_0) (v := .agg (Ls (lim aa))) rfl (by kernel_rfl) (by kernel_rfl) (by kernel_rfl) (fun _ _ _ h => h) (yloadM (by rfl) _ rfl g7 0 (lim aa) (lim aa) 27 rfl (by simp) rfl (rfl)) hst ?_
            unfold p6_0; simp only [Act.put, List.setIfInBounds_toArray, List.set_cons_zero, List.set_cons_succ]
            refine wpAnyH_take (i := 1) (oi := p6_1) (v := .agg (Ls (lim bb))) rfl (by kernel_rfl) (by kernel_rfl) (by kernel_rfl) (fun _ _ _ h => h) (yloadM (by rfl) _ rfl g8 0 (lim bb) (lim bb) 27 rfl (by simp) rfl (rfl)) hst ?_
            unfold p6_1; simp only [Act.put, List.setIfInBounds_toArray, List.set_cons_zero, List.set_cons_succ]
            refine wpAnyH_take (i := 3) (oi := p6_3) (v := .agg (Ls (lim ee))) rfl (by kernel_rfl) (by kernel_rfl) (by kernel_rfl) (fun _ _ _ h => h) (yloadM (by rfl) _ rfl g9 0 (lim ee) (lim ee) 27 rfl (by simp) rfl (rfl)) hst ?_
            unfold p6_3; simp only [Act.put, List.setIfInBounds_toArray, List.set_cons_zero, List.set_cons_succ]
            refine wpAnyH_take (i := 4) (oi := p6_4) (v := .agg (Ls (lim aa))) rfl (by kernel_rfl) (by kernel_rfl) (by kernel_rfl) (fun _ _ _ h => h) (yloadM (by rfl) _ rfl g7 0 (lim aa) (lim aa) 27 rfl (by simp) rfl (rfl)) hst ?_
            unfold p6_4; simp only [Act.put, List.setIfInBounds_toArray, List.set_cons_zero, List.set_cons_succ]
            refine wpAnyH_take (i := 5) (oi := p6_5) (v := .agg (Ls (lim ee))) rfl (by kernel_rfl) (by kernel_rfl) (by kernel_rfl) (fun _ _ _ h => h) (yloadM (by rfl) _ rfl g9 0 (lim ee) (lim ee) 27 rfl (by simp) rfl (rfl)) hst ?_
            unfold p6_5; simp only [Act.put, List.setIfInBounds_toArray, List.set_cons_zero, List.set_cons_succ]
            refine wpAnyH_ready (rs := [2, 10]) (by kernel_rfl) (by simp) ?_
            refine AllReadyH.cons (o := p6_2) rfl (fun K hK => ?_) ?_
            ·
             unfold p6_2; go_simp; refine (K_xx.out _).mono ?_; rintro e w1 ⟨rfl, hb⟩
             refine hK.out _ _ (hst.call hb) (fun h1 => ?_)
             clear hK K hb
             refine wpAnyH_ready (rs := [6, 10]) (by kernel_rfl) (by simp) ?_
             refine AllReadyH.cons (o := p6_6) rfl (fun K hK => ?_) ?_
             ·
              unfold p6_6; go_simp; refine (K_e1.out _).mono ?_; rintro e w2 ⟨rfl, hb⟩
              refine hK.out _ _ (h1.call hb) (fun h2 => ?_)
              clear hK K hb
              refine wpAnyH_ready (rs := [7, 10]) (by kernel_rfl) (by simp) ?_
              refine AllReadyH.cons (o := p6_7) rfl (fun K hK => ?_) ?_
              ·
               unfold p6_7; go_simp; refine (K_ae.out _).mono ?_; rintro e w3 ⟨rfl, hb⟩
               refine hK.out _ _ (h2.call hb) (fun h3 => ?_)
               clear hK K hb
               refine wpAnyH_ready (rs := [8, 10]) (by kernel_rfl) (by simp) ?_
               refine AllReadyH.cons (o := p6_8) rfl (fun K hK => ?_) ?_
               ·
                unfold p6_8; go_simp; refine (K_zz.out _).mono ?_; rintro e w4 ⟨rfl, hb⟩
                refine hK.out _ _ (h3.call hb) (fun h4 => ?_)
                clear hK K hb
                refine wpAnyH_take (i := 9) (oi := p6_9) (v := .agg (Ls (lim xx ++ lim zz))) rfl (by kernel_rfl) (by kernel_rfl) (by kernel_rfl) (fun _ _ _ h => h) (ybuild74 (by rfl) _ _ rfl xx zz rfl rfl) h4 ?_
                unfold p6_9; simp only [Act.put, List.setIfInBounds_toArray, List.set_cons_zero, List.set_cons_succ]
                refine wpAnyH_ready (rs := [10]) (by kernel_rfl) (by simp) ?_
                refine AllReadyH.cons (o := p6_10) rfl (fun K hK => ?_) ?_
                ·
                 unfold p6_10; go_simp; obtain ⟨g6, w8, e1, e2, hl, b7, hc⟩ := LS.mk74 h4; rw [e1, e2]
                 refine hK.out _ _ hl (fun h5 => ?_)
                 clear hK K e1 e2 hl hc
                 refine wpAnyH_ready (rs := [11]) (by kernel_rfl) (by simp) ?_
                 refine AllReadyH.cons (o := p6_11) rfl (fun K hK => ?_) ?_
                 ·
                  unfold p6_11; refine step_store74 rfl _ _ rfl g6 (lim xx ++ lim zz) [0, 0, 0, 0, 0, 0, 0, 0] rfl rfl b7.n rfl rfl ?_
                  obtain ⟨w10, e1, hl, b11, hc⟩ := LS.wr h5 b7 (lim xx ++ lim zz); rw [e1]
                  refine hK.out _ _ hl (fun h9 => ?_)
                  clear hK K e1 hl hc
                  refine wpAnyH_done (by kernel_rfl) ?_ _
                  simp only [Act.put]; go_wp2_with fail; go_meet
                  exact ⟨_, rfl, (h9.add b11.z b11.n)⟩
                 exact AllReadyH.nil
                exact AllReadyH.nil
               refine AllReadyH.cons (o := p6_10) rfl (fun K hK => ?_) ?_
               ·
                unfold p6_10; go_simp; obtain ⟨g13, w15, e1, e2, hl, b14, hc⟩ := LS.mk74 h3; rw [e1, e2]
                refine hK.out _ _ hl (fun h12 => ?_)
                clear hK K e1 e2 hl hc
                refine wpAnyH_ready (rs := [8]) (by kernel_rfl) (by simp) ?_
                refine AllReadyH.cons (o := p6_8) rfl (fun K hK => ?_) ?_
                ·
                 unfold p6_8; go_simp; refine (K_zz.out _).mono ?_; rintro e w16 ⟨rfl, hb⟩
                 refine hK.out _ _ (h12.call hb) (fun h16 => ?_)
                 have b17 := b14.call hb
                 clear hK K hb
                 refine wpAnyH_take (i := 9) (oi := p6_9) (v := .agg (Ls (lim xx ++ lim zz))) rfl (by kernel_rfl) (by kernel_rfl) (by kernel_rfl) (fun _ _ _ h => h) (ybuild74 (by rfl) _ _ rfl xx zz rfl rfl) h16 ?_
                 unfold p6_9; simp only [Act.put, List.setIfInBounds_toArray, List.set_cons_zero, List.set_cons_succ]
                 refine wpAnyH_ready (rs := [11]) (by kernel_rfl) (by simp) ?_
                 refine AllReadyH.cons (o := p6_11) rfl (fun K hK => ?_) ?_
                 ·
                  unfold p6_11; refine step_store74 rfl _ _ rfl g13 (lim xx ++ lim zz) [0, 0, 0, 0, 0, 0, 0, 0] rfl rfl b17.n rfl rfl ?_
                  obtain ⟨w19, e1, hl, b20, hc⟩ := LS.wr h16 b17 (lim xx ++ lim zz); rw [e1]
                  refine hK.out _ _ hl (fun h18 => ?_)
                  clear hK K e1 hl hc
                  refine wpAnyH_done (by kernel_rfl) ?_ _
                  simp only [Act.put]; go_wp2_with fail; go_meet
                  exact ⟨_, rfl, (h18.add b20.z b20.n)⟩
                 exact AllReadyH.nil
                exact AllReadyH.nil
               exact AllReadyH.nil
              refine AllReadyH.cons (o := p6_10) rfl (fun K hK => ?_) ?_
              ·
               unfold p6_10; go_simp; obtain ⟨g22, w24, e1, e2, hl, b23, hc⟩ := LS.mk74 h2; rw [e1, e2]
               refine hK.out _ _ hl (fun h21 => ?_)
               clear hK K e1 e2 hl hc
               refine wpAnyH_ready (rs := [7]) (by kernel_rfl) (by simp) ?_
               refine AllReadyH.cons (o := p6_7) rfl (fun K hK => ?_) ?_
               ·
                unfold p6_7; go_simp; refine (K_ae.out _).mono ?_; rintro e w25 ⟨rfl, hb⟩
                refine hK.out _ _ (h21.call hb) (fun h25 => ?_)
                have b26 := b23.call hb
                clear hK K hb
                refine wpAnyH_ready (rs := [8]) (by kernel_rfl) (by simp) ?_
                refine AllReadyH.cons (o := p6_8) rfl (fun K hK => ?_) ?_
                ·
                 unfold p6_8; go_simp; refine (K_zz.out _).mono ?_; rintro e w27 ⟨rfl, hb⟩
                 refine hK.out _ _ (h25.call hb) (fun h27 => ?_)
                 have b28 := b26.call hb
                 clear hK K hb
                 refine wpAnyH_take (i := 9) (oi := p6_9) (v := .agg (Ls (lim xx ++ lim zz))) rfl (by kernel_rfl) (by kernel_rfl) (by kernel_rfl) (fun _ _ _ h => h) (ybuild74 (by rfl) _ _ rfl xx zz rfl rfl) h27 ?_
                 unfold p6_9; simp only [Act.put, List.setIfInBounds_toArray, List.set_cons_zero, List.set_cons_succ]
                 refine wpAnyH_ready (rs := [11]) (by kernel_rfl) (by simp) ?_
                 refine AllReadyH.cons (o := p6_11) rfl (fun K hK => ?_) ?_
                 ·
                  unfold p6_11; refine step_store74 rfl _ _ rfl g22 (lim xx ++ lim zz) [0, 0, 0, 0, 0, 0, 0, 0] rfl rfl b28.n rfl rfl ?_
                  obtain ⟨w30, e1, hl, b31, hc⟩ := LS.wr h27 b28 (lim xx ++ lim zz); rw [e1]
                  refine hK.out _ _ hl (fun h29 => ?_)
                  clear hK K e1 hl hc
                  refine wpAnyH_done (by kernel_rfl) ?_ _
                  simp only [Act.put]; go_wp2_with fail; go_meet
                  exact ⟨_, rfl, (h29.add b31.z b31.n)⟩
                 exact AllReadyH.nil
                exact AllReadyH.nil
               exact AllReadyH.nil
              exact AllReadyH.nil
             refine AllReadyH.cons (o := p6_10) rfl (fun K hK => ?_) ?_
             ·
              unfold p6_10; go_simp; obtain ⟨g33, w35, e1, e2, hl, b34, hc⟩ := LS.mk74 h1; rw [e1, e2]
              refine hK.out _ _ hl (fun h32 => ?_)
              clear hK K e1 e2 hl hc
              refine wpAnyH_ready (rs := [6]) (by kernel_rfl) (by simp) ?_
              refine AllReadyH.cons (o := p6_6) rfl (fun K hK => ?_) ?_
              ·
               unfold p6_6; go_simp; refine (K_e1.out _).mono ?_; rintro e w36 ⟨rfl, hb⟩
               refine hK.out _ _ (h32.call hb) (fun h36 => ?_)
               have b37 := b34.call hb
               clear hK K hb
               refine wpAnyH_ready (rs := [7]) (by kernel_rfl) (by simp) ?_
               refine AllReadyH.cons (o := p6_7) rfl (fun K hK => ?_) ?_
               ·
                unfold p6_7; go_simp; refine (K_ae.out _).mono ?_; rintro e w38 ⟨rfl, hb⟩
                refine hK.out _ _ (h36.call hb) (fun h38 => ?_)
                have b39 := b37.call hb
                clear hK K hb
                refine wpAnyH_ready (rs := [8]) (by kernel_rfl) (by simp) ?_
                refine AllReadyH.cons (o := p6_8) rfl (fun K hK => ?_) ?_
                ·
                 unfold p6_8; go_simp; refine (K_zz.out _).mono ?_; rintro e w40 ⟨rfl, hb⟩
                 refine hK.out _ _ (h38.call hb) (fun h40 => ?_)
                 have b41 := b39.call hb
                 clear hK K hb
                 refine wpAnyH_take (i := 9) (oi := p6_9) (v := .agg (Ls (lim xx ++ lim zz))) rfl (by kernel_rfl) (by kernel_rfl) (by kernel_rfl) (fun _ _ _ h => h) (ybuild74 (by rfl) _ _ rfl xx zz rfl rfl) h40 ?_
                 unfold p6_9; simp only [Act.put, List.setIfInBounds_toArray, List.set_cons_zero, List.set_cons_succ]
                 refine wpAnyH_ready (rs := [11]) (by kernel_rfl) (by simp) ?_
                 refine AllReadyH.cons (o := p6_11) rfl (fun K hK => ?_) ?_
                 ·
                  unfold p6_11; refine step_store74 rfl _ _ rfl g33 (lim xx ++ lim zz) [0, 0, 0, 0, 0, 0, 0, 0] rfl rfl b41.n rfl rfl ?_
                  obtain ⟨w43, e1, hl, b44, hc⟩ := LS.wr h40 b41 (lim xx ++ lim zz); rw [e1]
                  refine hK.out _ _ hl (fun h42 => ?_)
                  clear hK K e1 hl hc
                  refine wpAnyH_done (by kernel_rfl) ?_ _
                  simp only [Act.put]; go_wp2_with fail; go_meet
                  exact ⟨_, rfl, (h42.add b44.z b44.n)⟩
                 exact AllReadyH.nil
                exact AllReadyH.nil
               exact AllReadyH.nil
              exact AllReadyH.nil
             exact AllReadyH.nil
            refine AllReadyH.cons (o := p6_10) rfl (fun K hK => ?_) ?_
            ·
             unfold p6_10; go_simp; obtain ⟨g46, w48, e1, e2, hl, b47, hc⟩ := LS.mk74 hst; rw [e1, e2]
             refine hK.out _ _ hl (fun h45 => ?_)
             clear hK K e1 e2 hl hc
             refine wpAnyH_ready (rs := [2]) (by kernel_rfl) (by simp) ?_
             refine AllReadyH.cons (o := p6_2) rfl (fun K hK => ?_) ?_
             ·
              unfold p6_2; go_simp; refine (K_xx.out _).mono ?_; rintro e w49 ⟨rfl, hb⟩
              refine hK.out _ _ (h45.call hb) (fun h49 => ?_)
              have b50 := b47.call hb
              clear hK K hb
              refine wpAnyH_ready (rs := [6]) (by kernel_rfl) (by simp) ?_
              refine AllReadyH.cons (o := p6_6) rfl (fun K hK => ?_) ?_
              ·
               unfold p6_6; go_simp; refine (K_e1.out _).mono ?_; rintro e w51 ⟨rfl, hb⟩
               refine hK.out _ _ (h49.call hb) (fun h51 => ?_)
               have b52 := b50.call hb
               clear hK K hb
               refine wpAnyH_ready (rs := [7]) (by kernel_rfl) (by simp) ?_
               refine AllReadyH.cons (o := p6_7) rfl (fun K hK => ?_) ?_
               ·
                unfold p6_7; go_simp; refine (K_ae.out _).mono ?_; rintro e w53 ⟨rfl, hb⟩
                refine hK.out _ _ (h51.call hb) (fun h53 => ?_)
                have b54 := b52.call hb
                clear hK K hb
                refine wpAnyH_ready (rs := [8]) (by kernel_rfl) (by simp) ?_
                refine AllReadyH.cons (o := p6_8) rfl (fun K hK => ?_) ?_
                ·
                 unfold p6_8; go_simp; refine (K_zz.out _).mono ?_; rintro e w55 ⟨rfl, hb⟩
                 refine hK.out _ _ (h53.call hb) (fun h55 => ?_)
                 have b56 := b54.call hb
                 clear hK K hb
                 refine wpAnyH_take (i := 9) (oi := p6_9) (v := .agg (Ls (lim xx ++ lim zz))) rfl (by kernel_rfl) (by kernel_rfl) (by kernel_rfl) (fun _ _ _ h => h) (ybuild74 (by rfl) _ _ rfl xx zz rfl rfl) h55 ?_
                 unfold p6_9; simp only [Act.put, List.setIfInBounds_toArray, List.set_cons_zero, List.set_cons_succ]
                 refine wpAnyH_ready (rs := [11]) (by kernel_rfl) (by simp) ?_
                 refine AllReadyH.cons (o := p6_11) rfl (fun K hK => ?_) ?_
                 ·
                  unfold p6_11; refine step_store74 rfl _ _ rfl g46 (lim xx ++ lim zz) [0, 0, 0, 0, 0, 0, 0, 0] rfl rfl b56.n rfl rfl ?_
                  obtain ⟨w58, e1, hl, b59, hc⟩ := LS.wr h55 b56 (lim xx ++ lim zz); rw [e1]
                  refine hK.out _ _ hl (fun h57 => ?_)
                  clear hK K e1 hl hc
                  refine wpAnyH_done (by kernel_rfl) ?_ _
                  simp only [Act.put]; go_wp2_with fail; go_meet
                  exact ⟨_, rfl, (h57.add b59.z b59.n)⟩
                 exact AllReadyH.nil
                exact AllReadyH.nil
               exact AllReadyH.nil
              exact AllReadyH.nil
             exact AllReadyH.nil
            exact AllReadyH.nil
          case rest =>
            clear HL
            obtain ⟨g12, rfl, hL⟩ := hcut
            have HL := Lib.hid hL
            clear hL
            go_upto_region 7 with fail
            go_cut [13] (fun s13 wc => ∃ g13, s13 = .pointer (some ⟨g13, 0, none⟩) ∧ LS w ((g13, lim ss ++ lim tt, 74) :: (g12, lim xx ++ lim zz, 74) :: (g11, lim dd, 27) :: (g10, lim cc, 27) :: (g9, lim ee, 27) :: (g8, lim bb, 27) :: (g7, lim aa, 27) :: (g6, lim dif, 27) :: (g5, lim sum, 27) :: [(w.heap.size, Q4 x z s t, 76), (w.heap.size + 1, lim u, 27), (w.heap.size + 1 + 1, Q4 0 0 0 0, 76)]) wc)
            case first =>
              refine wp_region_held_drew (S := LS w ((g12, lim xx ++ lim zz, 74) :: (g11, lim dd, 27) :: (g10, lim cc, 27) :: (g9, lim ee, 27) :: (g8, lim bb, 27) :: (g7, lim aa, 27) :: (g6, lim dif, 27) :: (g5, lim sum, 27) :: [(w.heap.size, Q4 x z s t, 76), (w.heap.size + 1, lim u, 27), (w.heap.size + 1 + 1, Q4 0 0 0 0, 76)])) (by kernel_rfl) HL.out.drew (fun hst => ?_)
              obtain ⟨wd, hwd⟩ : ∃ y, wc.drew = y := ⟨_, rfl⟩
              rw [hwd] at hst ⊢
              clear hwd
              refine wpAnyH_take (i := 0) (oi := p7_0) (v := .agg (Ls (lim cc))) rfl (by kernel_rfl) (by kernel_rfl) (by kernel_rfl) (fun _ _ _ h => h) (yloadM (by rfl) _ rfl g10 0 (lim cc) (lim cc) 27 rfl (by simp) rfl (rfl)) hst ?_
              unfold p7_0; simp only [Act.put, List.setIfInBounds_toArray, List.set_cons_zero, List.set_cons_succ]
              refine wpAnyH_take (i := 1) (oi := p7_1) (v := .agg (Ls (lim dd))) rfl (by kernel_rfl) (by kernel_rfl) (by kernel_rfl) (fun _ _ _ h => h) (yloadM (by rfl) _ rfl g11 0 (lim dd) (lim dd) 27 rfl (by simp) rfl (rfl)) hst ?_
              unfold p7_1; simp only [Act.put, List.setIfInBounds_toArray, List.set_cons_zero, List.set_cons_succ]
              refine wpAnyH_take (i := 4) (oi := p7_4) (v := .agg (Ls (lim u))) rfl (by kernel_rfl) (by kernel_rfl) (by kernel_rfl) (fun _ _ _ h => h) (yloadM (by rfl) _ rfl (w.heap.size + 1) 0 (lim u) (lim u) 27 rfl (by simp) rfl (rfl)) hst ?_
              unfold p7_4; simp only [Act.put, List.setIfInBounds_toArray, List.set_cons_zero, List.set_cons_succ]
              refine wpAnyH_take (i := 5) (oi := p7_5) (v := .agg (Ls (lim cc))) rfl (by kernel_rfl) (by kernel_rfl) (by kernel_rfl) (fun _ _ _ h => h) (yloadM (by rfl) _ rfl g10 0 (lim cc) (lim cc) 27 rfl (by simp) rfl (rfl)) hst ?_
              unfold p7_5; simp only [Act.put, List.setIfInBounds_toArray, List.set_cons_zero, List.set_cons_succ]
              refine wpAnyH_take (i := 6) (oi := p7_6) (v := .agg (Ls (lim dd))) rfl (by kernel_rfl) (by kernel_rfl) (by kernel_rfl) (fun _ _ _ h => h) (yloadM (by rfl) _ rfl g11 0 (lim dd) (lim dd) 27 rfl (by simp) rfl (rfl)) hst ?_
              unfold p7_6; simp only [Act.put, List.setIfInBounds_toArray, List.set_cons_zero, List.set_cons_succ]
              refine wpAnyH_ready (rs := [2, 11]) (by kernel_rfl) (by simp) ?_
              refine AllReadyH.cons (o := p7_2) rfl (fun K hK => ?_) ?_
              ·
               unfold p7_2; go_simp; refine (K_cd.out _).mono ?_; rintro e w1 ⟨rfl, hb⟩
               refine hK.out _ _ (hst.call hb) (fun h1 => ?_)
               clear hK K hb
               refine wpAnyH_ready (rs := [3, 11]) (by kernel_rfl) (by simp) ?_
               refine AllReadyH.cons (o := p7_3) rfl (fun K hK => ?_) ?_
               ·
                unfold p7_3; go_simp; refine (K_ss.out _).mono ?_; rintro e w2 ⟨rfl, hb⟩
                refine hK.out _ _ (h1.call hb) (fun h2 => ?_)
                clear hK K hb
                refine wpAnyH_ready (rs := [7, 11]) (by kernel_rfl) (by simp) ?_
                refine AllReadyH.cons (o := p7_7) rfl (fun K hK => ?_) ?_
                ·
                 unfold p7_7; go_simp; refine (K_cm.out _).mono ?_; rintro e w3 ⟨rfl, hb⟩
                 refine hK.out _ _ (h2.call hb) (fun h3 => ?_)
                 clear hK K hb
                 refine wpAnyH_ready (rs := [8, 11]) (by kernel_rfl) (by simp) ?_
                 refine AllReadyH.cons (o := p7_8) rfl (fun K hK => ?_) ?_
                 ·
                  unfold p7_8; go_simp; refine (K_cq.out _).mono ?_; rintro e w4 ⟨rfl, hb⟩
                  refine hK.out _ _ (h3.call hb) (fun h4 => ?_)
                  clear hK K hb
                  refine wpAnyH_ready (rs := [9, 11]) (by kernel_rfl) (by simp) ?_
                  refine AllReadyH.cons (o := p7_9) rfl (fun K hK => ?_) ?_
                  ·
                   unfold p7_9; go_simp; refine (K_tt.out _).mono ?_; rintro e w5 ⟨rfl, hb⟩
                   refine hK.out _ _ (h4.call hb) (fun h5 => ?_)
                   clear hK K hb
                   refine wpAnyH_take (i := 10) (oi := p7_10) (v := .agg (Ls (lim ss ++ lim tt))) rfl (by kernel_rfl) (by kernel_rfl) (by kernel_rfl) (fun _ _ _ h => h) (ybuild74 (by rfl) _ _ rfl ss tt rfl rfl) h5 ?_
                   unfold p7_10; simp only [Act.put, List.setIfInBounds_toArray, List.set_cons_zero, List.set_cons_succ]
                   refine wpAnyH_ready (rs := [11]) (by kernel_rfl) (by simp) ?_
                   refine AllReadyH.cons (o := p7_11) rfl (fun K hK => ?_) ?_
                   ·
                    unfold p7_11; go_simp; obtain ⟨g7, w9, e1, e2, hl, b8, hc⟩ := LS.mk74 h5; rw [e1, e2]
                    refine hK.out _ _ hl (fun h6 => ?_)
                    clear hK K e1 e2 hl hc
                    refine wpAnyH_ready (rs := [12]) (by kernel_rfl) (by simp) ?_
                    refine AllReadyH.cons (o := p7_12) rfl (fun K hK => ?_) ?_
                    ·
                     unfold p7_12; refine step_store74 rfl _ _ rfl g7 (lim ss ++ lim tt) [0, 0, 0, 0, 0, 0, 0, 0] rfl rfl b8.n rfl rfl ?_
                     obtain ⟨w11, e1, hl, b12, hc⟩ := LS.wr h6 b8 (lim ss ++ lim tt); rw [e1]
                     refine hK.out _ _ hl (fun h10 => ?_)
                     clear hK K e1 hl hc
                     refine wpAnyH_done (by kernel_rfl) ?_ _
                     simp only [Act.put]; go_wp2_with fail; go_meet
                     exact ⟨_, rfl, (h10.add b12.z b12.n)⟩
                    exact AllReadyH.nil
                   exact AllReadyH.nil
                  refine AllReadyH.cons (o := p7_11) rfl (fun K hK => ?_) ?_
                  ·
                   unfold p7_11; go_simp; obtain ⟨g14, w16, e1, e2, hl, b15, hc⟩ := LS.mk74 h4; rw [e1, e2]
                   refine hK.out _ _ hl (fun h13 => ?_)
                   clear hK K e1 e2 hl hc
                   refine wpAnyH_ready (rs := [9]) (by kernel_rfl) (by simp) ?_
                   refine AllReadyH.cons (o := p7_9) rfl (fun K hK => ?_) ?_
                   ·
                    unfold p7_9; go_simp; refine (K_tt.out _).mono ?_; rintro e w17 ⟨rfl, hb⟩
                    refine hK.out _ _ (h13.call hb) (fun h17 => ?_)
                    have b18 := b15.call hb
                    clear hK K hb
                    refine wpAnyH_take (i := 10) (oi := p7_10) (v := .agg (Ls (lim ss ++ lim tt))) rfl (by kernel_rfl) (by kernel_rfl) (by kernel_rfl) (fun _ _ _ h => h) (ybuild74 (by rfl) _ _ rfl ss tt rfl rfl) h17 ?_
                    unfold p7_10; simp only [Act.put, List.setIfInBounds_toArray, List.set_cons_zero, List.set_cons_succ]
                    refine wpAnyH_ready (rs := [12]) (by kernel_rfl) (by simp) ?_
                    refine AllReadyH.cons (o := p7_12) rfl (fun K hK => ?_) ?_
                    ·
                     unfold p7_12; refine step_store74 rfl _ _ rfl g14 (lim ss ++ lim tt) [0, 0, 0, 0, 0, 0, 0, 0] rfl rfl b18.n rfl rfl ?_
                     obtain ⟨w20, e1, hl, b21, hc⟩ := LS.wr h17 b18 (lim ss ++ lim tt); rw [e1]
                     refine hK.out _ _ hl (fun h19 => ?_)
                     clear hK K e1 hl hc
                     refine wpAnyH_done (by kernel_rfl) ?_ _
                     simp only [Act.put]; go_wp2_with fail; go_meet
                     exact ⟨_, rfl, (h19.add b21.z b21.n)⟩
                    exact AllReadyH.nil
                   exact AllReadyH.nil
                  exact AllReadyH.nil
                 refine AllReadyH.cons (o := p7_11) rfl (fun K hK => ?_) ?_
                 ·
                  unfold p7_11; go_simp; obtain ⟨g23, w25, e1, e2, hl, b24, hc⟩ := LS.mk74 h3; rw [e1, e2]
                  refine hK.out _ _ hl (fun h22 => ?_)
                  clear hK K e1 e2 hl hc
                  refine wpAnyH_ready (rs := [8]) (by kernel_rfl) (by simp) ?_
                  refine AllReadyH.cons (o := p7_8) rfl (fun K hK => ?_) ?_
                  ·
                   unfold p7_8; go_simp; refine (K_cq.out _).mono ?_; rintro e w26 ⟨rfl, hb⟩
                   refine hK.out _ _ (h22.call hb) (fun h26 => ?_)
                   have b27 := b24.call hb
                   clear hK K hb
                   refine wpAnyH_ready (rs := [9]) (by kernel_rfl) (by simp) ?_
                   refine AllReadyH.cons (o := p7_9) rfl (fun K hK => ?_) ?_
                   ·
                    unfold p7_9; go_simp; refine (K_tt.out _).mono ?_; rintro e w28 ⟨rfl, hb⟩
                    refine hK.out _ _ (h26.call hb) (fun h28 => ?_)
                    have b29 := b27.call hb
                    clear hK K hb
                    refine wpAnyH_take (i := 10) (oi := p7_10) (v := .agg (Ls (lim ss ++ lim tt))) rfl (by kernel_rfl) (by kernel_rfl) (by kernel_rfl) (fun _ _ _ h => h) (ybuild74 (by rfl) _ _ rfl ss tt rfl rfl) h28 ?_
                    unfold p7_10; simp only [Act.put, List.setIfInBounds_toArray, List.set_cons_zero, List.set_cons_succ]
                    refine wpAnyH_ready (rs := [12]) (by kernel_rfl) (by simp) ?_
                    refine AllReadyH.cons (o := p7_12) rfl (fun K hK => ?_) ?_
                    ·
                     unfold p7_12; refine step_store74 rfl _ _ rfl g23 (lim ss ++ lim tt) [0, 0, 0, 0, 0, 0, 0, 0] rfl rfl b29.n rfl rfl ?_
                     obtain ⟨w31, e1, hl, b32, hc⟩ := LS.wr h28 b29 (lim ss ++ lim tt); rw [e1]
                     refine hK.out _ _ hl (fun h30 => ?_)
                     clear hK K e1 hl hc
                     refine wpAnyH_done (by kernel_rfl) ?_ _
                     simp only [Act.put]; go_wp2_with fail; go_meet
                     exact ⟨_, rfl, (h30.add b32.z b32.n)⟩
                    exact AllReadyH.nil
                   exact AllReadyH.nil
                  exact AllReadyH.nil
                 exact AllReadyH.nil
                refine AllReadyH.cons (o := p7_11) rfl (fun K hK => ?_) ?_
                ·
                 unfold p7_11; go_simp; obtain ⟨g34, w36, e1, e2, hl, b35, hc⟩ := LS.mk74 h2; rw [e1, e2]
                 refine hK.out _ _ hl (fun h33 => ?_)
                 clear hK K e1 e2 hl hc
                 refine wpAnyH_ready (rs := [7]) (by kernel_rfl) (by simp) ?_
                 refine AllReadyH.cons (o := p7_7) rfl (fun K hK => ?_) ?_
                 ·
                  unfold p7_7; go_simp; refine (K_cm.out _).mono ?_; rintro e w37 ⟨rfl, hb⟩
                  refine hK.out _ _ (h33.call hb) (fun h37 => ?_)
                  have b38 := b35.call hb
                  clear hK K hb
                  refine wpAnyH_ready (rs := [8]) (by kernel_rfl) (by simp) ?_
                  refine AllReadyH.cons (o := p7_8) rfl (fun K hK => ?_) ?_
                  ·
                   unfold p7_8; go_simp; refine (K_cq.out _).mono ?_; rintro e w39 ⟨rfl, hb⟩
                   refine hK.out _ _ (h37.call hb) (fun h39 => ?_)
                   have b40 := b38.call hb
                   clear hK K hb
                   refine wpAnyH_ready (rs := [9]) (by kernel_rfl) (by simp) ?_
                   refine AllReadyH.cons (o := p7_9) rfl (fun K hK => ?_) ?_
                   ·
                    unfold p7_9; go_simp; refine (K_tt.out _).mono ?_; rintro e w41 ⟨rfl, hb⟩
                    refine hK.out _ _ (h39.call hb) (fun h41 => ?_)
                    have b42 := b40.call hb
                    clear hK K hb
                    refine wpAnyH_take (i := 10) (oi := p7_10) (v := .agg (Ls (lim ss ++ lim tt))) rfl (by kernel_rfl) (by kernel_rfl) (by kernel_rfl) (fun _ _ _ h => h) (ybuild74 (by rfl) _ _ rfl ss tt rfl rfl) h41 ?_
                    unfold p7_10; simp only [Act.put, List.setIfInBounds_toArray, List.set_cons_zero, List.set_cons_succ]
                    refine wpAnyH_ready (rs := [12]) (by kernel_rfl) (by simp) ?_
                    refine AllReadyH.cons (o := p7_12) rfl (fun K hK => ?_) ?_
                    ·
                     unfold p7_12; refine step_store74 rfl _ _ rfl g34 (lim ss ++ lim tt) [0, 0, 0, 0, 0, 0, 0, 0] rfl rfl b42.n rfl rfl ?_
                     obtain ⟨w44, e1, hl, b45, hc⟩ := LS.wr h41 b42 (lim ss ++ lim tt); rw [e1]
                     refine hK.out _ _ hl (fun h43 => ?_)
                     clear hK K e1 hl hc
                     refine wpAnyH_done (by kernel_rfl) ?_ _
                     simp only [Act.put]; go_wp2_with fail; go_meet
                     exact ⟨_, rfl, (h43.add b45.z b45.n)⟩
                    exact AllReadyH.nil
                   exact AllReadyH.nil
                  exact AllReadyH.nil
                 exact AllReadyH.nil
                exact AllReadyH.nil
               refine AllReadyH.cons (o := p7_11) rfl (fun K hK => ?_) ?_
               ·
                unfold p7_11; go_simp; obtain ⟨g47, w49, e1, e2, hl, b48, hc⟩ := LS.mk74 h1; rw [e1, e2]
                refine hK.out _ _ hl (fun h46 => ?_)
                clear hK K e1 e2 hl hc
                refine wpAnyH_ready (rs := [3]) (by kernel_rfl) (by simp) ?_
                refine AllReadyH.cons (o := p7_3) rfl (fun K hK => ?_) ?_
                ·
                 unfold p7_3; go_simp; refine (K_ss.out _).mono ?_; rintro e w50 ⟨rfl, hb⟩
                 refine hK.out _ _ (h46.call hb) (fun h50 => ?_)
                 have b51 := b48.call hb
                 clear hK K hb
                 refine wpAnyH_ready (rs := [7]) (by kernel_rfl) (by simp) ?_
                 refine AllReadyH.cons (o := p7_7) rfl (fun K hK => ?_) ?_
                 ·
                  unfold p7_7; go_simp; refine (K_cm.out _).mono ?_; rintro e w52 ⟨rfl, hb⟩
                  refine hK.out _ _ (h50.call hb) (fun h52 => ?_)
                  have b53 := b51.call hb
                  clear hK K hb
                  refine wpAnyH_ready (rs := [8]) (by kernel_rfl) (by simp) ?_
                  refine AllReadyH.cons (o := p7_8) rfl (fun K hK => ?_) ?_
                  ·
                   unfold p7_8; go_simp; refine (K_cq.out _).mono ?_; rintro e w54 ⟨rfl, hb⟩
                   refine hK.out _ _ (h52.call hb) (fun h54 => ?_)
                   have b55 := b53.call hb
                   clear hK K hb
                   refine wpAnyH_ready (rs := [9]) (by kernel_rfl) (by simp) ?_
                   refine AllReadyH.cons (o := p7_9) rfl (fun K hK => ?_) ?_
                   ·
                    unfold p7_9; go_simp; refine (K_tt.out _).mono ?_; rintro e w56 ⟨rfl, hb⟩
                    refine hK.out _ _ (h54.call hb) (fun h56 => ?_)
                    have b57 := b55.call hb
                    clear hK K hb
                    refine wpAnyH_take (i := 10) (oi := p7_10) (v := .agg (Ls (lim ss ++ lim tt))) rfl (by kernel_rfl) (by kernel_rfl) (by kernel_rfl) (fun _ _ _ h => h) (ybuild74 (by rfl) _ _ rfl ss tt rfl rfl) h56 ?_
                    unfold p7_10; simp only [Act.put, List.setIfInBounds_toArray, List.set_cons_zero, List.set_cons_succ]
                    refine wpAnyH_ready (rs := [12]) (by kernel_rfl) (by simp) ?_
                    refine AllReadyH.cons (o := p7_12) rfl (fun K hK => ?_) ?_
                    ·
                     unfold p7_12; refine step_store74 rfl _ _ rfl g47 (lim ss ++ lim tt) [0, 0, 0, 0, 0, 0, 0, 0] rfl rfl b57.n rfl rfl ?_
                     obtain ⟨w59, e1, hl, b60, hc⟩ := LS.wr h56 b57 (lim ss ++ lim tt); rw [e1]
                     refine hK.out _ _ hl (fun h58 => ?_)
                     clear hK K e1 hl hc
                     refine wpAnyH_done (by kernel_rfl) ?_ _
                     simp only [Act.put]; go_wp2_with fail; go_meet
                     exact ⟨_, rfl, (h58.add b60.z b60.n)⟩
                    exact AllReadyH.nil
                   exact AllReadyH.nil
                  exact AllReadyH.nil
                 exact AllReadyH.nil
                exact AllReadyH.nil
               exact AllReadyH.nil
              refine AllReadyH.cons (o := p7_11) rfl (fun K hK => ?_) ?_
              ·
               unfold p7_11; go_simp; obtain ⟨g62, w64, e1, e2, hl, b63, hc⟩ := LS.mk74 hst; rw [e1, e2]
               refine hK.out _ _ hl (fun h61 => ?_)
               clear hK K e1 e2 hl hc
               refine wpAnyH_ready (rs := [2]) (by kernel_rfl) (by simp) ?_
               refine AllReadyH.cons (o := p7_2) rfl (fun K hK => ?_) ?_
               ·
                unfold p7_2; go_simp; refine (K_cd.out _).mono ?_; rintro e w65 ⟨rfl, hb⟩
                refine hK.out _ _ (h61.call hb) (fun h65 => ?_)
                have b66 := b63.call hb
                clear hK K hb
                refine wpAnyH_ready (rs := [3]) (by kernel_rfl) (by simp) ?_
                refine AllReadyH.cons (o := p7_3) rfl (fun K hK => ?_) ?_
                ·
                 unfold p7_3; go_simp; refine (K_ss.out _).mono ?_; rintro e w67 ⟨rfl, hb⟩
                 refine hK.out _ _ (h65.call hb) (fun h67 => ?_)
                 have b68 := b66.call hb
                 clear hK K hb
                 refine wpAnyH_ready (rs := [7]) (by kernel_rfl) (by simp) ?_
                 refine AllReadyH.cons (o := p7_7) rfl (fun K hK => ?_) ?_
                 ·
                  unfold p7_7; go_simp; refine (K_cm.out _).mono ?_; rintro e w69 ⟨rfl, hb⟩
                  refine hK.out _ _ (h67.call hb) (fun h69 => ?_)
                  have b70 := b68.call hb
                  clear hK K hb
                  refine wpAnyH_ready (rs := [8]) (by kernel_rfl) (by simp) ?_
                  refine AllReadyH.cons (o := p7_8) rfl (fun K hK => ?_) ?_
                  ·
                   unfold p7_8; go_simp; refine (K_cq.out _).mono ?_; rintro e w71 ⟨rfl, hb⟩
                   refine hK.out _ _ (h69.call hb) (fun h71 => ?_)
                   have b72 := b70.call hb
                   clear hK K hb
                   refine wpAnyH_ready (rs := [9]) (by kernel_rfl) (by simp) ?_
                   refine AllReadyH.cons (o := p7_9) rfl (fun K hK => ?_) ?_
                   ·
                    unfold p7_9; go_simp; refine (K_tt.out _).mono ?_; rintro e w73 ⟨rfl, hb⟩
                    refine hK.out _ _ (h71.call hb) (fun h73 => ?_)
                    have b74 := b72.call hb
                    clear hK K hb
                    refine wpAnyH_take (i := 10) (oi := p7_10) (v := .agg (Ls (lim ss ++ lim tt))) rfl (by kernel_rfl) (by kernel_rfl) (by kernel_rfl) (fun _ _ _ h => h) (ybuild74 (by rfl) _ _ rfl ss tt rfl rfl) h73 ?_
                    unfold p7_10; simp only [Act.put, List.setIfInBounds_toArray, List.set_cons_zero, List.set_cons_succ]
                    refine wpAnyH_ready (rs := [12]) (by kernel_rfl) (by simp) ?_
                    refine AllReadyH.cons (o := p7_12) rfl (fun K hK => ?_) ?_
                    ·
                     unfold p7_12; refine step_store74 rfl _ _ rfl g62 (lim ss ++ lim tt) [0, 0, 0, 0, 0, 0, 0, 0] rfl rfl b74.n rfl rfl ?_
                     obtain ⟨w76, e1, hl, b77, hc⟩ := LS.wr h73 b74 (lim ss ++ lim tt); rw [e1]
                     refine hK.out _ _ hl (fun h75 => ?_)
                     clear hK K e1 hl hc
                     refine wpAnyH_done (by kernel_rfl) ?_ _
                     simp only [Act.put]; go_wp2_with fail; go_meet
                     exact ⟨_, rfl, (h75.add b77.z b77.n)⟩
                    exact AllReadyH.nil
                   exact AllReadyH.nil
                  exact AllReadyH.nil
                 exact AllReadyH.nil
                exact AllReadyH.nil
               exact AllReadyH.nil
              exact AllReadyH.nil
            case rest =>
              clear HL
              obtain ⟨g13, rfl, hL⟩ := hcut
              have HL := Lib.hid hL
              clear hL
              have F12 := Lib.hid (HL.out.get g12 (lim xx ++ lim zz) 74 (by simp))
              have F13 := Lib.hid (HL.out.get g13 (lim ss ++ lim tt) 74 (by simp))
              have F4 := Lib.hid (HL.out.get (w.heap.size + 1 + 1) (Q4 0 0 0 0) 76 (by simp))
              have FB := Lib.hid HL.out.below
              clear HL
              go_wp2_with (first | (refine load74 rfl _ rfl g12 (lim xx ++ lim zz) rfl F12.out rfl ?_) | (refine load74 rfl _ rfl g13 (lim ss ++ lim tt) rfl F13.out rfl ?_) | (refine build76 rfl _ _ rfl xx zz ss tt rfl rfl ?_) | (refine store76 rfl _ _ rfl (w.heap.size + 1 + 1) (Q4 xx zz ss tt) (Q4 0 0 0 0) rfl rfl F4.out rfl rfl ?_))
              refine ret76 rfl (w.heap.size + 1 + 1) (Q4 xx zz ss tt) rfl (ls_row F4.out) rfl rfl ⟨rfl, ?_⟩
              exact below_setRow FB.out (by omega) _
end Go.Proofs.Ytfklojheogidpaa
