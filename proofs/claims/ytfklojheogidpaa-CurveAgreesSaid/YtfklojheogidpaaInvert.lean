import Derived.Test.YtfklojheogidpaaSame
set_option linter.unusedVariables false
set_option linter.unusedSimpArgs false
namespace Go.Proofs.Ytfklojheogidpaa
open Go.RowKit Go.Proofs.YtfklojheogidpaaW.PrintWords
abbrev opinvert0 : Oper := { dst := some 16, op := Op.load 27 (Operand.tmp 3), type := 27, pos := "field.go:129", after := #[], guard := none }
abbrev opinvert1 : Oper := { dst := some 18, op := Op.load 27 (Operand.tmp 1), type := 27, pos := "field.go:129", after := #[], guard := none }
abbrev opinvert2 : Oper := { dst := some 17, op := Op.call { callee := Callee.value (Operand.func 57), args := #[Operand.tmp 16, Operand.const (Value.int IntKind.i64 2)], argTypes := #[27, 3] }, type := 27, pos := "field.go:129", after := #[{ on := 0, ground := Ground.data }], guard := none }
abbrev opinvert3 : Oper := { dst := some 19, op := Op.call { callee := Callee.value (Operand.func 29), args := #[Operand.tmp 17, Operand.tmp 18], argTypes := #[27, 27] }, type := 27, pos := "field.go:129", after := #[{ on := 1, ground := Ground.data }, { on := 2, ground := Ground.data }, { on := 1, ground := Ground.chain }], guard := none }
abbrev opinvert4 : Oper := { dst := some 4, op := Op.alloc 27, type := 0, pos := "field.go:129", after := #[], guard := none }
abbrev opinvert5 : Oper := { dst := none, op := Op.store 27 (Operand.tmp 4) (Operand.tmp 19), type := 0, pos := "field.go:129", after := #[{ on := 4, ground := Ground.data }, { on := 3, ground := Ground.data }, { on := 3, ground := Ground.chain }, { on := 0, ground := Ground.phase }, { on := 1, ground := Ground.phase }, { on := 2, ground := Ground.phase }, { on := 3, ground := Ground.phase }, { on := 4, ground := Ground.phase }], guard := none }
abbrev opinvert6 : Oper := { dst := some 23, op := Op.load 27 (Operand.tmp 5), type := 27, pos := "field.go:131", after := #[], guard := none }
abbrev opinvert7 : Oper := { dst := some 25, op := Op.load 27 (Operand.tmp 4), type := 27, pos := "field.go:131", after := #[], guard := none }
abbrev opinvert8 : Oper := { dst := some 24, op := Op.call { callee := Callee.value (Operand.func 33), args := #[Operand.tmp 23], argTypes := #[27] }, type := 27, pos := "field.go:131", after := #[{ on := 0, ground := Ground.data }], guard := none }
abbrev opinvert9 : Oper := { dst := some 26, op := Op.call { callee := Callee.value (Operand.func 29), args := #[Operand.tmp 24, Operand.tmp 25], argTypes := #[27, 27] }, type := 27, pos := "field.go:131", after := #[{ on := 1, ground := Ground.data }, { on := 2, ground := Ground.data }, { on := 1, ground := Ground.chain }], guard := none }
abbrev opinvert10 : Oper := { dst := some 6, op := Op.alloc 27, type := 0, pos := "field.go:131", after := #[], guard := none }
abbrev opinvert11 : Oper := { dst := none, op := Op.store 27 (Operand.tmp 6) (Operand.tmp 26), type := 0, pos := "field.go:131", after := #[{ on := 4, ground := Ground.data }, { on := 3, ground := Ground.data }, { on := 3, ground := Ground.chain }, { on := 0, ground := Ground.phase }, { on := 1, ground := Ground.phase }, { on := 2, ground := Ground.phase }, { on := 3, ground := Ground.phase }, { on := 4, ground := Ground.phase }], guard := none }
abbrev opinvert12 : Oper := { dst := some 27, op := Op.load 27 (Operand.tmp 6), type := 27, pos := "field.go:132", after := #[], guard := none }
abbrev opinvert13 : Oper := { dst := some 29, op := Op.load 27 (Operand.tmp 6), type := 27, pos := "field.go:132", after := #[], guard := none }
abbrev opinvert14 : Oper := { dst := some 28, op := Op.call { callee := Callee.value (Operand.func 57), args := #[Operand.tmp 27, Operand.const (Value.int IntKind.i64 5)], argTypes := #[27, 3] }, type := 27, pos := "field.go:132", after := #[{ on := 0, ground := Ground.data }], guard := none }
abbrev opinvert15 : Oper := { dst := some 30, op := Op.call { callee := Callee.value (Operand.func 29), args := #[Operand.tmp 28, Operand.tmp 29], argTypes := #[27, 27] }, type := 27, pos := "field.go:132", after := #[{ on := 1, ground := Ground.data }, { on := 2, ground := Ground.data }, { on := 1, ground := Ground.chain }], guard := none }
abbrev opinvert16 : Oper := { dst := some 7, op := Op.alloc 27, type := 0, pos := "field.go:132", after := #[], guard := none }
abbrev opinvert17 : Oper := { dst := none, op := Op.store 27 (Operand.tmp 7) (Operand.tmp 30), type := 0, pos := "field.go:132", after := #[{ on := 4, ground := Ground.data }, { on := 3, ground := Ground.data }, { on := 3, ground := Ground.chain }, { on := 0, ground := Ground.phase }, { on := 1, ground := Ground.phase }, { on := 2, ground := Ground.phase }, { on := 3, ground := Ground.phase }, { on := 4, ground := Ground.phase }], guard := none }
abbrev opinvert18 : Oper := { dst := some 31, op := Op.load 27 (Operand.tmp 7), type := 27, pos := "field.go:133", after := #[], guard := none }
abbrev opinvert19 : Oper := { dst := some 33, op := Op.load 27 (Operand.tmp 7), type := 27, pos := "field.go:133", after := #[], guard := none }
abbrev opinvert20 : Oper := { dst := some 32, op := Op.call { callee := Callee.value (Operand.func 57), args := #[Operand.tmp 31, Operand.const (Value.int IntKind.i64 10)], argTypes := #[27, 3] }, type := 27, pos := "field.go:133", after := #[{ on := 0, ground := Ground.data }], guard := none }
abbrev opinvert21 : Oper := { dst := some 34, op := Op.call { callee := Callee.value (Operand.func 29), args := #[Operand.tmp 32, Operand.tmp 33], argTypes := #[27, 27] }, type := 27, pos := "field.go:133", after := #[{ on := 1, ground := Ground.data }, { on := 2, ground := Ground.data }, { on := 1, ground := Ground.chain }], guard := none }
abbrev opinvert22 : Oper := { dst := some 8, op := Op.alloc 27, type := 0, pos := "field.go:133", after := #[], guard := none }
abbrev opinvert23 : Oper := { dst := none, op := Op.store 27 (Operand.tmp 8) (Operand.tmp 34), type := 0, pos := "field.go:133", after := #[{ on := 4, ground := Ground.data }, { on := 3, ground := Ground.data }, { on := 3, ground := Ground.chain }, { on := 0, ground := Ground.phase }, { on := 1, ground := Ground.phase }, { on := 2, ground := Ground.phase }, { on := 3, ground := Ground.phase }, { on := 4, ground := Ground.phase }], guard := none }
abbrev opinvert24 : Oper := { dst := some 35, op := Op.load 27 (Operand.tmp 8), type := 27, pos := "field.go:134", after := #[], guard := none }
abbrev opinvert25 : Oper := { dst := some 37, op := Op.load 27 (Operand.tmp 8), type := 27, pos := "field.go:134", after := #[], guard := none }
abbrev opinvert26 : Oper := { dst := some 36, op := Op.call { callee := Callee.value (Operand.func 57), args := #[Operand.tmp 35, Operand.const (Value.int IntKind.i64 20)], argTypes := #[27, 3] }, type := 27, pos := "field.go:134", after := #[{ on := 0, ground := Ground.data }], guard := none }
abbrev opinvert27 : Oper := { dst := some 38, op := Op.call { callee := Callee.value (Operand.func 29), args := #[Operand.tmp 36, Operand.tmp 37], argTypes := #[27, 27] }, type := 27, pos := "field.go:134", after := #[{ on := 1, ground := Ground.data }, { on := 2, ground := Ground.data }, { on := 1, ground := Ground.chain }], guard := none }
abbrev opinvert28 : Oper := { dst := some 9, op := Op.alloc 27, type := 0, pos := "field.go:134", after := #[], guard := none }
abbrev opinvert29 : Oper := { dst := none, op := Op.store 27 (Operand.tmp 9) (Operand.tmp 38), type := 0, pos := "field.go:134", after := #[{ on := 4, ground := Ground.data }, { on := 3, ground := Ground.data }, { on := 3, ground := Ground.chain }, { on := 0, ground := Ground.phase }, { on := 1, ground := Ground.phase }, { on := 2, ground := Ground.phase }, { on := 3, ground := Ground.phase }, { on := 4, ground := Ground.phase }], guard := none }
abbrev opinvert30 : Oper := { dst := some 39, op := Op.load 27 (Operand.tmp 9), type := 27, pos := "field.go:135", after := #[], guard := none }
abbrev opinvert31 : Oper := { dst := some 41, op := Op.load 27 (Operand.tmp 7), type := 27, pos := "field.go:135", after := #[], guard := none }
abbrev opinvert32 : Oper := { dst := some 40, op := Op.call { callee := Callee.value (Operand.func 57), args := #[Operand.tmp 39, Operand.const (Value.int IntKind.i64 10)], argTypes := #[27, 3] }, type := 27, pos := "field.go:135", after := #[{ on := 0, ground := Ground.data }], guard := none }
abbrev opinvert33 : Oper := { dst := some 42, op := Op.call { callee := Callee.value (Operand.func 29), args := #[Operand.tmp 40, Operand.tmp 41], argTypes := #[27, 27] }, type := 27, pos := "field.go:135", after := #[{ on := 1, ground := Ground.data }, { on := 2, ground := Ground.data }, { on := 1, ground := Ground.chain }], guard := none }
abbrev opinvert34 : Oper := { dst := some 10, op := Op.alloc 27, type := 0, pos := "field.go:135", after := #[], guard := none }
abbrev opinvert35 : Oper := { dst := none, op := Op.store 27 (Operand.tmp 10) (Operand.tmp 42), type := 0, pos := "field.go:135", after := #[{ on := 4, ground := Ground.data }, { on := 3, ground := Ground.data }, { on := 3, ground := Ground.chain }, { on := 0, ground := Ground.phase }, { on := 1, ground := Ground.phase }, { on := 2, ground := Ground.phase }, { on := 3, ground := Ground.phase }, { on := 4, ground := Ground.phase }], guard := none }
abbrev opinvert36 : Oper := { dst := some 43, op := Op.load 27 (Operand.tmp 10), type := 27, pos := "field.go:136", after := #[], guard := none }
abbrev opinvert37 : Oper := { dst := some 45, op := Op.load 27 (Operand.tmp 10), type := 27, pos := "field.go:136", after := #[], guard := none }
abbrev opinvert38 : Oper := { dst := some 44, op := Op.call { callee := Callee.value (Operand.func 57), args := #[Operand.tmp 43, Operand.const (Value.int IntKind.i64 50)], argTypes := #[27, 3] }, type := 27, pos := "field.go:136", after := #[{ on := 0, ground := Ground.data }], guard := none }
abbrev opinvert39 : Oper := { dst := some 46, op := Op.call { callee := Callee.value (Operand.func 29), args := #[Operand.tmp 44, Operand.tmp 45], argTypes := #[27, 27] }, type := 27, pos := "field.go:136", after := #[{ on := 1, ground := Ground.data }, { on := 2, ground := Ground.data }, { on := 1, ground := Ground.chain }], guard := none }
abbrev opinvert40 : Oper := { dst := some 11, op := Op.alloc 27, type := 0, pos := "field.go:136", after := #[], guard := none }
abbrev opinvert41 : Oper := { dst := none, op := Op.store 27 (Operand.tmp 11) (Operand.tmp 46), type := 0, pos := "field.go:136", after := #[{ on := 4, ground := Ground.data }, { on := 3, ground := Ground.data }, { on := 3, ground := Ground.chain }, { on := 0, ground := Ground.phase }, { on := 1, ground := Ground.phase }, { on := 2, ground := Ground.phase }, { on := 3, ground := Ground.phase }, { on := 4, ground := Ground.phase }], guard := none }
abbrev opinvert42 : Oper := { dst := some 47, op := Op.load 27 (Operand.tmp 11), type := 27, pos := "field.go:137", after := #[], guard := none }
abbrev opinvert43 : Oper := { dst := some 49, op := Op.load 27 (Operand.tmp 11), type := 27, pos := "field.go:137", after := #[], guard := none }
abbrev opinvert44 : Oper := { dst := some 48, op := Op.call { callee := Callee.value (Operand.func 57), args := #[Operand.tmp 47, Operand.const (Value.int IntKind.i64 100)], argTypes := #[27, 3] }, type := 27, pos := "field.go:137", after := #[{ on := 0, ground := Ground.data }], guard := none }
abbrev opinvert45 : Oper := { dst := some 50, op := Op.call { callee := Callee.value (Operand.func 29), args := #[Operand.tmp 48, Operand.tmp 49], argTypes := #[27, 27] }, type := 27, pos := "field.go:137", after := #[{ on := 1, ground := Ground.data }, { on := 2, ground := Ground.data }, { on := 1, ground := Ground.chain }], guard := none }
abbrev opinvert46 : Oper := { dst := some 12, op := Op.alloc 27, type := 0, pos := "field.go:137", after := #[], guard := none }
abbrev opinvert47 : Oper := { dst := none, op := Op.store 27 (Operand.tmp 12) (Operand.tmp 50), type := 0, pos := "field.go:137", after := #[{ on := 4, ground := Ground.data }, { on := 3, ground := Ground.data }, { on := 3, ground := Ground.chain }, { on := 0, ground := Ground.phase }, { on := 1, ground := Ground.phase }, { on := 2, ground := Ground.phase }, { on := 3, ground := Ground.phase }, { on := 4, ground := Ground.phase }], guard := none }
abbrev opinvert48 : Oper := { dst := some 51, op := Op.load 27 (Operand.tmp 12), type := 27, pos := "field.go:138", after := #[], guard := none }
abbrev opinvert49 : Oper := { dst := some 53, op := Op.load 27 (Operand.tmp 10), type := 27, pos := "field.go:138", after := #[], guard := none }
abbrev opinvert50 : Oper := { dst := some 52, op := Op.call { callee := Callee.value (Operand.func 57), args := #[Operand.tmp 51, Operand.const (Value.int IntKind.i64 50)], argTypes := #[27, 3] }, type := 27, pos := "field.go:138", after := #[{ on := 0, ground := Ground.data }], guard := none }
abbrev opinvert51 : Oper := { dst := some 54, op := Op.call { callee := Callee.value (Operand.func 29), args := #[Operand.tmp 52, Operand.tmp 53], argTypes := #[27, 27] }, type := 27, pos := "field.go:138", after := #[{ on := 1, ground := Ground.data }, { on := 2, ground := Ground.data }, { on := 1, ground := Ground.chain }], guard := none }
abbrev opinvert52 : Oper := { dst := some 13, op := Op.alloc 27, type := 0, pos := "field.go:138", after := #[], guard := none }
abbrev opinvert53 : Oper := { dst := none, op := Op.store 27 (Operand.tmp 13) (Operand.tmp 54), type := 0, pos := "field.go:138", after := #[{ on := 4, ground := Ground.data }, { on := 3, ground := Ground.data }, { on := 3, ground := Ground.chain }, { on := 0, ground := Ground.phase }, { on := 1, ground := Ground.phase }, { on := 2, ground := Ground.phase }, { on := 3, ground := Ground.phase }, { on := 4, ground := Ground.phase }], guard := none }
abbrev opinvert54 : Oper := { dst := some 55, op := Op.load 27 (Operand.tmp 13), type := 27, pos := "field.go:139", after := #[], guard := none }
abbrev opinvert55 : Oper := { dst := some 57, op := Op.load 27 (Operand.tmp 5), type := 27, pos := "field.go:139", after := #[], guard := none }
abbrev opinvert56 : Oper := { dst := some 56, op := Op.call { callee := Callee.value (Operand.func 57), args := #[Operand.tmp 55, Operand.const (Value.int IntKind.i64 5)], argTypes := #[27, 3] }, type := 27, pos := "field.go:139", after := #[{ on := 0, ground := Ground.data }], guard := none }
abbrev opinvert57 : Oper := { dst := some 58, op := Op.call { callee := Callee.value (Operand.func 29), args := #[Operand.tmp 56, Operand.tmp 57], argTypes := #[27, 27] }, type := 27, pos := "field.go:139", after := #[{ on := 1, ground := Ground.data }, { on := 2, ground := Ground.data }, { on := 1, ground := Ground.chain }], guard := none }
abbrev opinvert58 : Oper := { dst := none, op := Op.store 27 (Operand.tmp 2) (Operand.tmp 58), type := 0, pos := "field.go:139", after := #[{ on := 3, ground := Ground.data }, { on := 3, ground := Ground.chain }, { on := 0, ground := Ground.phase }, { on := 1, ground := Ground.phase }, { on := 2, ground := Ground.phase }, { on := 3, ground := Ground.phase }], guard := none }

/-! ### Invert -/
theorem HS.slotlt {W0 : World} {fs : List (Nat × List Int)} {gs : List Nat} {w : World} (h : HS W0 fs gs w) (g : Nat) (hg : g ∈ gs) : g < w.heap.size := by
  obtain ⟨_, l, _, h2⟩ := h.slots g hg
  exact blk_lt h2
theorem HS.new {W0 : World} {fs : List (Nat × List Int)} {gs : List Nat} {w : World} (h : HS W0 fs gs w) : (w.alloc (.cells (Ls [0, 0, 0, 0]) 27)).heap[w.heap.size]? = some (.cells (Ls [0, 0, 0, 0]) 27 (0, 0)) := heap_alloc_new w _
def inv9 (v : Int) : Int := mulV (sqN (mulV v v) 2) v
def inv11 (v : Int) : Int := mulV (inv9 v) (mulV v v)
def invX5 (v : Int) : Int := mulV (mulV (inv11 v) (inv11 v)) (inv9 v)
def invX10 (v : Int) : Int := mulV (sqN (invX5 v) 5) (invX5 v)
def invX20 (v : Int) : Int := mulV (sqN (invX10 v) 10) (invX10 v)
def invX40 (v : Int) : Int := mulV (sqN (invX20 v) 20) (invX20 v)
def invX50 (v : Int) : Int := mulV (sqN (invX40 v) 10) (invX10 v)
def invX100 (v : Int) : Int := mulV (sqN (invX50 v) 50) (invX50 v)
def invX200 (v : Int) : Int := mulV (sqN (invX100 v) 100) (invX100 v)
def invX250 (v : Int) : Int := mulV (sqN (invX200 v) 50) (invX50 v)
def invV (v : Int) : Int := mulV (sqN (invX250 v) 5) (inv11 v)

set_option maxHeartbeats 4000000 in
theorem invert_any (v : Int) (h : 0 ≤ v ∧ v < BB) (w : World) :
    Calls Try.prog 34 #[.agg (E v)] w fun e w' => e = .returned (.agg (E (invV v))) ∧ Below w.heap.size w w' := by
  have HV := Lib.hid h
  clear h
  obtain ⟨x2, h_x2⟩ : ∃ x, x = mulV v v := ⟨_, rfl⟩
  obtain ⟨x9, h_x9⟩ : ∃ x, x = inv9 v := ⟨_, rfl⟩
  obtain ⟨x11, h_x11⟩ : ∃ x, x = inv11 v := ⟨_, rfl⟩
  obtain ⟨x5, h_x5⟩ : ∃ x, x = invX5 v := ⟨_, rfl⟩
  obtain ⟨x10, h_x10⟩ : ∃ x, x = invX10 v := ⟨_, rfl⟩
  obtain ⟨x20, h_x20⟩ : ∃ x, x = invX20 v := ⟨_, rfl⟩
  obtain ⟨x40, h_x40⟩ : ∃ x, x = invX40 v := ⟨_, rfl⟩
  obtain ⟨x50, h_x50⟩ : ∃ x, x = invX50 v := ⟨_, rfl⟩
  obtain ⟨x100, h_x100⟩ : ∃ x, x = invX100 v := ⟨_, rfl⟩
  obtain ⟨x200, h_x200⟩ : ∃ x, x = invX200 v := ⟨_, rfl⟩
  obtain ⟨x250, h_x250⟩ : ∃ x, x = invX250 v := ⟨_, rfl⟩
  obtain ⟨xr, h_xr⟩ : ∃ x, x = invV v := ⟨_, rfl⟩
  have c_x2 : ∀ w, Calls Try.prog 33 #[.agg (E v)] w fun e w' => e = .returned (.agg (E x2)) ∧ Below w.heap.size w w' := fun w => h_x2 ▸ square_any v HV.out w
  have g_x2 : 0 ≤ x2 ∧ x2 < BB := by rw [h_x2]; exact range_mul HV.out HV.out
  have c_x9 : ∀ w, Calls Try.prog 57 #[.agg (E x2), .int .i64 2] w fun e w' => e = .returned (.agg (E (sqN x2 2))) ∧ Below w.heap.size w w' := fun w => squares_any x2 2 (by omega) g_x2 w
  have e_x9 : x9 = mulV (sqN x2 2) v := by rw [h_x9]; unfold inv9; simp only [← h_x2, ← h_x11, ← h_x5, ← h_x10, ← h_x20, ← h_x40, ← h_x50, ← h_x100, ← h_x200, ← h_x250]
  have d_x9 : ∀ w, Calls Try.prog 29 #[.agg (E (sqN x2 2)), .agg (E v)] w fun e w' => e = .returned (.agg (E x9)) ∧ Below w.heap.size w w' := fun w => by rw [e_x9]; exact mul_any _ _ (range_sq g_x2 2).1 (range_sq g_x2 2).2 HV.out.1 HV.out.2 w
  have g_x9 : 0 ≤ x9 ∧ x9 < BB := by rw [e_x9]; exact range_mul (range_sq g_x2 2) HV.out
  have e_x11 : x11 = mulV (x9) x2 := by rw [h_x11]; unfold inv11; simp only [← h_x2, ← h_x9, ← h_x5, ← h_x10, ← h_x20, ← h_x40, ← h_x50, ← h_x100, ← h_x200, ← h_x250]
  have d_x11 : ∀ w, Calls Try.prog 29 #[.agg (E (x9)), .agg (E x2)] w fun e w' => e = .returned (.agg (E x11)) ∧ Below w.heap.size w w' := fun w => by rw [e_x11]; exact mul_any _ _ g_x9.1 g_x9.2 g_x2.1 g_x2.2 w
  have g_x11 : 0 ≤ x11 ∧ x11 < BB := by rw [e_x11]; exact range_mul g_x9 g_x2
  have c_x5 : ∀ w, Calls Try.prog 33 #[.agg (E x11)] w fun e w' => e = .returned (.agg (E (mulV x11 x11))) ∧ Below w.heap.size w w' := fun w =>  square_any x11 g_x11 w
  have e_x5 : x5 = mulV (mulV x11 x11) x9 := by rw [h_x5]; unfold invX5; simp only [← h_x2, ← h_x9, ← h_x11, ← h_x10, ← h_x20, ← h_x40, ← h_x50, ← h_x100, ← h_x200, ← h_x250]
  have d_x5 : ∀ w, Calls Try.prog 29 #[.agg (E (mulV x11 x11)), .agg (E x9)] w fun e w' => e = .returned (.agg (E x5)) ∧ Below w.heap.size w w' := fun w => by rw [e_x5]; exact mul_any _ _ (range_mul g_x11 g_x11).1 (range_mul g_x11 g_x11).2 g_x9.1 g_x9.2 w
  have g_x5 : 0 ≤ x5 ∧ x5 < BB := by rw [e_x5]; exact range_mul (range_mul g_x11 g_x11) g_x9
  have c_x10 : ∀ w, Calls Try.prog 57 #[.agg (E x5), .int .i64 5] w fun e w' => e = .returned (.agg (E (sqN x5 5))) ∧ Below w.heap.size w w' := fun w => squares_any x5 5 (by omega) g_x5 w
  have e_x10 : x10 = mulV (sqN x5 5) x5 := by rw [h_x10]; unfold invX10; simp only [← h_x2, ← h_x9, ← h_x11, ← h_x5, ← h_x20, ← h_x40, ← h_x50, ← h_x100, ← h_x200, ← h_x250]
  have d_x10 : ∀ w, Calls Try.prog 29 #[.agg (E (sqN x5 5)), .agg (E x5)] w fun e w' => e = .returned (.agg (E x10)) ∧ Below w.heap.size w w' := fun w => by rw [e_x10]; exact mul_any _ _ (range_sq g_x5 5).1 (range_sq g_x5 5).2 g_x5.1 g_x5.2 w
  have g_x10 : 0 ≤ x10 ∧ x10 < BB := by rw [e_x10]; exact range_mul (range_sq g_x5 5) g_x5
  have c_x20 : ∀ w, Calls Try.prog 57 #[.agg (E x10), .int .i64 10] w fun e w' => e = .returned (.agg (E (sqN x10 10))) ∧ Below w.heap.size w w' := fun w => squares_any x10 10 (by omega) g_x10 w
  have e_x20 : x20 = mulV (sqN x10 10) x10 := by rw [h_x20]; unfold invX20; simp only [← h_x2, ← h_x9, ← h_x11, ← h_x5, ← h_x10, ← h_x40, ← h_x50, ← h_x100, ← h_x200, ← h_x250]
  have d_x20 : ∀ w, Calls Try.prog 29 #[.agg (E (sqN x10 10)), .agg (E x10)] w fun e w' => e = .returned (.agg (E x20)) ∧ Below w.heap.size w w' := fun w => by rw [e_x20]; exact mul_any _ _ (range_sq g_x10 10).1 (range_sq g_x10 10).2 g_x10.1 g_x10.2 w
  have g_x20 : 0 ≤ x20 ∧ x20 < BB := by rw [e_x20]; exact range_mul (range_sq g_x10 10) g_x10
  have c_x40 : ∀ w, Calls Try.prog 57 #[.agg (E x20), .int .i64 20] w fun e w' => e = .returned (.agg (E (sqN x20 20))) ∧ Below w.heap.size w w' := fun w => squares_any x20 20 (by omega) g_x20 w
  have e_x40 : x40 = mulV (sqN x20 20) x20 := by rw [h_x40]; unfold invX40; simp only [← h_x2, ← h_x9, ← h_x11, ← h_x5, ← h_x10, ← h_x20, ← h_x50, ← h_x100, ← h_x200, ← h_x250]
  have d_x40 : ∀ w, Calls Try.prog 29 #[.agg (E (sqN x20 20)), .agg (E x20)] w fun e w' => e = .returned (.agg (E x40)) ∧ Below w.heap.size w w' := fun w => by rw [e_x40]; exact mul_any _ _ (range_sq g_x20 20).1 (range_sq g_x20 20).2 g_x20.1 g_x20.2 w
  have g_x40 : 0 ≤ x40 ∧ x40 < BB := by rw [e_x40]; exact range_mul (range_sq g_x20 20) g_x20
  have c_x50 : ∀ w, Calls Try.prog 57 #[.agg (E x40), .int .i64 10] w fun e w' => e = .returned (.agg (E (sqN x40 10))) ∧ Below w.heap.size w w' := fun w => squares_any x40 10 (by omega) g_x40 w
  have e_x50 : x50 = mulV (sqN x40 10) x10 := by rw [h_x50]; unfold invX50; simp only [← h_x2, ← h_x9, ← h_x11, ← h_x5, ← h_x10, ← h_x20, ← h_x40, ← h_x100, ← h_x200, ← h_x250]
  have d_x50 : ∀ w, Calls Try.prog 29 #[.agg (E (sqN x40 10)), .agg (E x10)] w fun e w' => e = .returned (.agg (E x50)) ∧ Below w.heap.size w w' := fun w => by rw [e_x50]; exact mul_any _ _ (range_sq g_x40 10).1 (range_sq g_x40 10).2 g_x10.1 g_x10.2 w
  have g_x50 : 0 ≤ x50 ∧ x50 < BB := by rw [e_x50]; exact range_mul (range_sq g_x40 10) g_x10
  have c_x100 : ∀ w, Calls Try.prog 57 #[.agg (E x50), .int .i64 50] w fun e w' => e = .returned (.agg (E (sqN x50 50))) ∧ Below w.heap.size w w' := fun w => squares_any x50 50 (by omega) g_x50 w
  have e_x100 : x100 = mulV (sqN x50 50) x50 := by rw [h_x100]; unfold invX100; simp only [← h_x2, ← h_x9, ← h_x11, ← h_x5, ← h_x10, ← h_x20, ← h_x40, ← h_x50, ← h_x200, ← h_x250]
  have d_x100 : ∀ w, Calls Try.prog 29 #[.agg (E (sqN x50 50)), .agg (E x50)] w fun e w' => e = .returned (.agg (E x100)) ∧ Below w.heap.size w w' := fun w => by rw [e_x100]; exact mul_any _ _ (range_sq g_x50 50).1 (range_sq g_x50 50).2 g_x50.1 g_x50.2 w
  have g_x100 : 0 ≤ x100 ∧ x100 < BB := by rw [e_x100]; exact range_mul (range_sq g_x50 50) g_x50
  have c_x200 : ∀ w, Calls Try.prog 57 #[.agg (E x100), .int .i64 100] w fun e w' => e = .returned (.agg (E (sqN x100 100))) ∧ Below w.heap.size w w' := fun w => squares_any x100 100 (by omega) g_x100 w
  have e_x200 : x200 = mulV (sqN x100 100) x100 := by rw [h_x200]; unfold invX200; simp only [← h_x2, ← h_x9, ← h_x11, ← h_x5, ← h_x10, ← h_x20, ← h_x40, ← h_x50, ← h_x100, ← h_x250]
  have d_x200 : ∀ w, Calls Try.prog 29 #[.agg (E (sqN x100 100)), .agg (E x100)] w fun e w' => e = .returned (.agg (E x200)) ∧ Below w.heap.size w w' := fun w => by rw [e_x200]; exact mul_any _ _ (range_sq g_x100 100).1 (range_sq g_x100 100).2 g_x100.1 g_x100.2 w
  have g_x200 : 0 ≤ x200 ∧ x200 < BB := by rw [e_x200]; exact range_mul (range_sq g_x100 100) g_x100
  have c_x250 : ∀ w, Calls Try.prog 57 #[.agg (E x200), .int .i64 50] w fun e w' => e = .returned (.agg (E (sqN x200 50))) ∧ Below w.heap.size w w' := fun w => squares_any x200 50 (by omega) g_x200 w
  have e_x250 : x250 = mulV (sqN x200 50) x50 := by rw [h_x250]; unfold invX250; simp only [← h_x2, ← h_x9, ← h_x11, ← h_x5, ← h_x10, ← h_x20, ← h_x40, ← h_x50, ← h_x100, ← h_x200]
  have d_x250 : ∀ w, Calls Try.prog 29 #[.agg (E (sqN x200 50)), .agg (E x50)] w fun e w' => e = .returned (.agg (E x250)) ∧ Below w.heap.size w w' := fun w => by rw [e_x250]; exact mul_any _ _ (range_sq g_x200 50).1 (range_sq g_x200 50).2 g_x50.1 g_x50.2 w
  have g_x250 : 0 ≤ x250 ∧ x250 < BB := by rw [e_x250]; exact range_mul (range_sq g_x200 50) g_x50
  have c_xr : ∀ w, Calls Try.prog 57 #[.agg (E x250), .int .i64 5] w fun e w' => e = .returned (.agg (E (sqN x250 5))) ∧ Below w.heap.size w w' := fun w => squares_any x250 5 (by omega) g_x250 w
  have e_xr : xr = mulV (sqN x250 5) x11 := by rw [h_xr]; unfold invV; simp only [← h_x2, ← h_x9, ← h_x11, ← h_x5, ← h_x10, ← h_x20, ← h_x40, ← h_x50, ← h_x100, ← h_x200, ← h_x250]
  have d_xr : ∀ w, Calls Try.prog 29 #[.agg (E (sqN x250 5)), .agg (E x11)] w fun e w' => e = .returned (.agg (E xr)) ∧ Below w.heap.size w w' := fun w => by rw [e_xr]; exact mul_any _ _ (range_sq g_x250 5).1 (range_sq g_x250 5).2 g_x11.1 g_x11.2 w
  have g_xr : 0 ≤ xr ∧ xr < BB := by rw [e_xr]; exact range_mul (range_sq g_x250 5) g_x11
  have C_x2 := Lib.hid c_x2
  have C_x9 := Lib.hid c_x9
  have D_x9 := Lib.hid d_x9
  have D_x11 := Lib.hid d_x11
  have C_x5 := Lib.hid c_x5
  have D_x5 := Lib.hid d_x5
  have C_x10 := Lib.hid c_x10
  have D_x10 := Lib.hid d_x10
  have C_x20 := Lib.hid c_x20
  have D_x20 := Lib.hid d_x20
  have C_x40 := Lib.hid c_x40
  have D_x40 := Lib.hid d_x40
  have C_x50 := Lib.hid c_x50
  have D_x50 := Lib.hid d_x50
  have C_x100 := Lib.hid c_x100
  have D_x100 := Lib.hid d_x100
  have C_x200 := Lib.hid c_x200
  have D_x200 := Lib.hid d_x200
  have C_x250 := Lib.hid c_x250
  have D_x250 := Lib.hid d_x250
  have C_xr := Lib.hid c_xr
  have D_xr := Lib.hid d_xr
  have HXR := Lib.hid h_xr
  clear c_x2 c_x9  c_x5 c_x10 c_x20 c_x40 c_x50 c_x100 c_x200 c_x250 c_xr d_x9 e_x9 d_x11 e_x11 d_x5 e_x5 d_x10 e_x10 d_x20 e_x20 d_x40 e_x40 d_x50 e_x50 d_x100 e_x100 d_x200 e_x200 d_x250 e_x250 d_xr e_xr g_x2 g_x9 g_x11 g_x5 g_x10 g_x20 g_x40 g_x50 g_x100 g_x200 g_x250 g_xr h_x2 h_x9 h_x11 h_x5 h_x10 h_x20 h_x40 h_x50 h_x100 h_x200 h_x250 h_xr
  go_enter Try.func34, Try.ntmps34
  go_upto_region 0 with fail
  go_cut [1, 2] (fun s1 s2 wx => s1 = .pointer (some ⟨w.heap.size, 0, none⟩) ∧ s2 = .pointer (some ⟨w.heap.size + 1, 0, none⟩) ∧ HS w [(w.heap.size, lim v)] [w.heap.size + 1] wx)
  case first =>
    go_wp2_with fail
    go_meet
    refine ⟨rfl, rfl, ((Below.refl w.heap.size w).alloc (Nat.le_refl _) _).alloc (by simp) _, fun x hx => ?_, fun g hg => ?_⟩
    · simp only [List.mem_cons, List.not_mem_nil, or_false] at hx
      subst hx
      exact ⟨Nat.le_refl _, heap_alloc2_old w _ _⟩
    · simp only [List.mem_cons, List.not_mem_nil, or_false] at hg
      subst hg
      exact ⟨by omega, [0, 0, 0, 0], rfl, heap_alloc2_new w _ _⟩
  case rest =>
    obtain ⟨rfl, rfl, hS⟩ := hcut
    have HSH := Lib.hid hS
    clear hS
    go_upto_region 1 with fail
    go_cut [1, 2, 3] (fun s1 s2 s3 wx => ∃ b3 : Nat, s1 = .pointer (some ⟨w.heap.size, 0, none⟩) ∧ s2 = .pointer (some ⟨w.heap.size + 1, 0, none⟩) ∧ s3 = .pointer (some ⟨b3, 0, none⟩) ∧ w.heap.size + 1 < b3 ∧ HS w [(b3, lim x2), (w.heap.size, lim v)] [w.heap.size + 1] wx)
    case first =>
      go_wp2_with (first | (refine load27 rfl _ rfl w.heap.size (lim v) rfl (HSH.out.get _ _ (by simp)) rfl ?_))
      refine (C_x2.out _).mono ?_
      rintro e w2 ⟨rfl, b2⟩
      have HH := Lib.hid (HSH.out.call b2)
      clear b2
      have HN := Lib.hid HH.out.new
      have HZ := Lib.hid (HH.out.slotlt _ (List.mem_cons_self ..))
      go_wp2_with (refine store27 rfl _ _ rfl _ (lim x2) [0, 0, 0, 0] rfl rfl HN.out rfl rfl ?_)
      go_meet
      have hz := HZ.out
      exact ⟨_, rfl, rfl, rfl, hz, ((HH.out.alloc _).row _ (by omega) HH.out.fresh _ rfl HN.out).add (by omega) (ls_row HN.out)⟩
    case rest =>
      clear HSH 
      obtain ⟨b3, rfl, rfl, rfl, hl3, hS⟩ := hcut
      have HSH := Lib.hid hS
      have HL3 := Lib.hid hl3
      clear hS hl3
      go_upto_region 2 with fail
      go_cut [1, 2, 3, 4] (fun s1 s2 s3 s4 wx => ∃ b3 b4 : Nat, s1 = .pointer (some ⟨w.heap.size, 0, none⟩) ∧ s2 = .pointer (some ⟨w.heap.size + 1, 0, none⟩) ∧ s3 = .pointer (some ⟨b3, 0, none⟩) ∧ s4 = .pointer (some ⟨b4, 0, none⟩) ∧ w.heap.size + 1 < b3 ∧ w.heap.size + 1 < b4 ∧ HS w [(b4, lim x9), (b3, lim x2), (w.heap.size, lim v)] [w.heap.size + 1] wx)
      case first =>
        refine wp_region_held_drew (S := HS w [(b3, lim x2), (w.heap.size, lim v)] [w.heap.size + 1]) (by kernel_rfl) HSH.out.drew (fun hst => ?_)
        refine wpAnyH_take (i := 0) (oi := opinvert0) (v := .agg (Ls (lim x2))) rfl (by kernel_rfl) (by kernel_rfl) (by kernel_rfl) (fun _ _ _ h => h) (yload (by rfl) _ rfl b3 (lim x2) rfl (by simp) rfl) hst ?_
        unfold opinvert0; simp only [Act.put, List.setIfInBounds_toArray, List.set_cons_zero, List.set_cons_succ]
        refine wpAnyH_take (i := 2) (oi := opinvert1) (v := .agg (Ls (lim v))) rfl (by kernel_rfl) (by kernel_rfl) (by kernel_rfl) (fun _ _ _ h => h) (yload (by rfl) _ rfl w.heap.size (lim v) rfl (by simp) rfl) hst ?_
        unfold opinvert1; simp only [Act.put, List.setIfInBounds_toArray, List.set_cons_zero, List.set_cons_succ]
        refine wpAnyH_ready (rs := [1, 4]) (by kernel_rfl) (by simp) ?_
        refine AllReadyH.cons (o := opinvert2) rfl (fun K hK => ?_) ?_
        · unfold opinvert2
          go_simp
          refine (C_x9.out _).mono ?_
          rintro e ww3 ⟨rfl, hb2⟩
          refine hK.out _ _ (hst.call hb2) (fun hh1 => ?_)
          clear hK K
          refine wpAnyH_ready (rs := [3, 4]) (by kernel_rfl) (by simp) ?_
          refine AllReadyH.cons (o := opinvert3) rfl (fun K hK => ?_) ?_
          · unfold opinvert3
            go_simp
            refine (D_x9.out _).mono ?_
            rintro e ww6 ⟨rfl, hb5⟩
            refine hK.out _ _ (hh1.call hb5) (fun hh4 => ?_)
            clear hK K
            refine wpAnyH_ready (rs := [4]) (by kernel_rfl) (by simp) ?_
            refine AllReadyH.cons (o := opinvert4) rfl (fun K hK => ?_) ?_
            · unfold opinvert4
              go_simp
              have hf9 := hh4.fresh
              have hz11 := hh4.slotlt _ (List.mem_cons_self ..)
              have hn8 := hh4.new
              refine hK.out _ _ (hh4.alloc _) (fun hh7 => ?_)
              clear hK K
              refine wpAnyH_ready (rs := [5]) (by kernel_rfl) (by simp) ?_
              refine AllReadyH.cons (o := opinvert5) rfl (fun K hK => ?_) ?_
              · unfold opinvert5
                refine step_store27 rfl _ _ rfl _ (lim x9) [0, 0, 0, 0] rfl rfl hn8 rfl rfl ?_
                refine hK.out _ _ (hh7.row _ (by omega) hf9 _ rfl hn8) (fun hh12 => ?_)
                have hn13 := ls_row (cs := Ls (lim x9)) hn8
                clear hK K
                refine wpAnyH_done (by kernel_rfl) ?_ _
                go_wp2_with fail
                go_meet
                exact ⟨b3, _, rfl, rfl, rfl, rfl, HL3.out, hz11, hh12.add (Nat.le_of_lt (Nat.lt_of_succ_lt hz11)) hn13⟩
              exact AllReadyH.nil
            exact AllReadyH.nil
          refine AllReadyH.cons (o := opinvert4) rfl (fun K hK => ?_) ?_
          · unfold opinvert4
            go_simp
            have hf16 := hh1.fresh
            have hz18 := hh1.slotlt _ (List.mem_cons_self ..)
            have hn15 := hh1.new
            refine hK.out _ _ (hh1.alloc _) (fun hh14 => ?_)
            clear hK K
            refine wpAnyH_ready (rs := [3]) (by kernel_rfl) (by simp) ?_
            refine AllReadyH.cons (o := opinvert3) rfl (fun K hK => ?_) ?_
            · unfold opinvert3
              go_simp
              refine (D_x9.out _).mono ?_
              rintro e ww21 ⟨rfl, hb20⟩
              refine hK.out _ _ (hh14.call hb20) (fun hh19 => ?_)
              have hn22 := (hb20.block _ (blk_lt hn15)).trans hn15
              clear hK K
              refine wpAnyH_ready (rs := [5]) (by kernel_rfl) (by simp) ?_
              refine AllReadyH.cons (o := opinvert5) rfl (fun K hK => ?_) ?_
              · unfold opinvert5
                refine step_store27 rfl _ _ rfl _ (lim x9) [0, 0, 0, 0] rfl rfl hn22 rfl rfl ?_
                refine hK.out _ _ (hh19.row _ (by omega) hf16 _ rfl hn22) (fun hh24 => ?_)
                have hn25 := ls_row (cs := Ls (lim x9)) hn22
                clear hK K
                refine wpAnyH_done (by kernel_rfl) ?_ _
                go_wp2_with fail
                go_meet
                exact ⟨b3, _, rfl, rfl, rfl, rfl, HL3.out, hz18, hh24.add (Nat.le_of_lt (Nat.lt_of_succ_lt hz18)) hn25⟩
              exact AllReadyH.nil
            exact AllReadyH.nil
          exact AllReadyH.nil
        refine AllReadyH.cons (o := opinvert4) rfl (fun K hK => ?_) ?_
        · unfold opinvert4
          go_simp
          have hf28 := hst.fresh
          have hz30 := hst.slotlt _ (List.mem_cons_self ..)
          have hn27 := hst.new
          refine hK.out _ _ (hst.alloc _) (fun hh26 => ?_)
          clear hK K
          refine wpAnyH_ready (rs := [1]) (by kernel_rfl) (by simp) ?_
          refine AllReadyH.cons (o := opinvert2) rfl (fun K hK => ?_) ?_
          · unfold opinvert2
            go_simp
            refine (C_x9.out _).mono ?_
            rintro e ww33 ⟨rfl, hb32⟩
            refine hK.out _ _ (hh26.call hb32) (fun hh31 => ?_)
            have hn34 := (hb32.block _ (blk_lt hn27)).trans hn27
            clear hK K
            refine wpAnyH_ready (rs := [3]) (by kernel_rfl) (by simp) ?_
            refine AllReadyH.cons (o := opinvert3) rfl (fun K hK => ?_) ?_
            · unfold opinvert3
              go_simp
              refine (D_x9.out _).mono ?_
              rintro e ww38 ⟨rfl, hb37⟩
              refine hK.out _ _ (hh31.call hb37) (fun hh36 => ?_)
              have hn39 := (hb37.block _ (blk_lt hn34)).trans hn34
              clear hK K
              refine wpAnyH_ready (rs := [5]) (by kernel_rfl) (by simp) ?_
              refine AllReadyH.cons (o := opinvert5) rfl (fun K hK => ?_) ?_
              · unfold opinvert5
                refine step_store27 rfl _ _ rfl _ (lim x9) [0, 0, 0, 0] rfl rfl hn39 rfl rfl ?_
                refine hK.out _ _ (hh36.row _ (by omega) hf28 _ rfl hn39) (fun hh41 => ?_)
                have hn42 := ls_row (cs := Ls (lim x9)) hn39
                clear hK K
                refine wpAnyH_done (by kernel_rfl) ?_ _
                go_wp2_with fail
                go_meet
                exact ⟨b3, _, rfl, rfl, rfl, rfl, HL3.out, hz30, hh41.add (Nat.le_of_lt (Nat.lt_of_succ_lt hz30)) hn42⟩
              exact AllReadyH.nil
            exact AllReadyH.nil
          exact AllReadyH.nil
        exact AllReadyH.nil
      case rest =>
        clear HSH HL3
        obtain ⟨b3, b4, rfl, rfl, rfl, rfl, hl3, hl4, hS⟩ := hcut
        have HSH := Lib.hid hS
        have HL3 := Lib.hid hl3
        have HL4 := Lib.hid hl4
        clear hS hl3 hl4
        go_upto_region 3 with fail
        go_cut [1, 2, 3, 4, 5] (fun s1 s2 s3 s4 s5 wx => ∃ b3 b4 b5 : Nat, s1 = .pointer (some ⟨w.heap.size, 0, none⟩) ∧ s2 = .pointer (some ⟨w.heap.size + 1, 0, none⟩) ∧ s3 = .pointer (some ⟨b3, 0, none⟩) ∧ s4 = .pointer (some ⟨b4, 0, none⟩) ∧ s5 = .pointer (some ⟨b5, 0, none⟩) ∧ w.heap.size + 1 < b3 ∧ w.heap.size + 1 < b4 ∧ w.heap.size + 1 < b5 ∧ HS w [(b5, lim x11), (b4, lim x9), (b3, lim x2), (w.heap.size, lim v)] [w.heap.size + 1] wx)
        case first =>
          go_wp2_with (first | (refine load27 rfl _ rfl b4 (lim x9) rfl (HSH.out.get _ _ (by simp)) rfl ?_) | (refine load27 rfl _ rfl b3 (lim x2) rfl (HSH.out.get _ _ (by simp)) rfl ?_))
          refine (D_x11.out _).mono ?_
          rintro e w2 ⟨rfl, b2⟩
          have HH := Lib.hid (HSH.out.call b2)
          clear b2
          have HN := Lib.hid HH.out.new
          have HZ := Lib.hid (HH.out.slotlt _ (List.mem_cons_self ..))
          go_wp2_with (refine store27 rfl _ _ rfl _ (lim x11) [0, 0, 0, 0] rfl rfl HN.out rfl rfl ?_)
          go_meet
          have hz := HZ.out
          exact ⟨b3, b4, _, rfl, rfl, rfl, rfl, rfl, HL3.out, HL4.out, hz, ((HH.out.alloc _).row _ (by omega) HH.out.fresh _ rfl HN.out).add (by omega) (ls_row HN.out)⟩
        case rest =>
          clear HSH HL3 HL4
          obtain ⟨b3, b4, b5, rfl, rfl, rfl, rfl, rfl, hl3, hl4, hl5, hS⟩ := hcut
          have HSH := Lib.hid hS
          have HL3 := Lib.hid hl3
          have HL4 := Lib.hid hl4
          have HL5 := Lib.hid hl5
          clear hS hl3 hl4 hl5
          go_upto_region 4 with fail
          go_cut [1, 2, 3, 4, 5, 6] (fun s1 s2 s3 s4 s5 s6 wx => ∃ b3 b4 b5 b6 : Nat, s1 = .pointer (some ⟨w.heap.size, 0, none⟩) ∧ s2 = .pointer (some ⟨w.heap.size + 1, 0, none⟩) ∧ s3 = .pointer (some ⟨b3, 0, none⟩) ∧ s4 = .pointer (some ⟨b4, 0, none⟩) ∧ s5 = .pointer (some ⟨b5, 0, none⟩) ∧ s6 = .pointer (some ⟨b6, 0, none⟩) ∧ w.heap.size + 1 < b3 ∧ w.heap.size + 1 < b4 ∧ w.heap.size + 1 < b5 ∧ w.heap.size + 1 < b6 ∧ HS w [(b6, lim x5), (b5, lim x11), (b4, lim x9), (b3, lim x2), (w.heap.size, lim v)] [w.heap.size + 1] wx)
          case first =>
            refine wp_region_held_drew (S := HS w [(b5, lim x11), (b4, lim x9), (b3, lim x2), (w.heap.size, lim v)] [w.heap.size + 1]) (by kernel_rfl) HSH.out.drew (fun hst => ?_)
            refine wpAnyH_take (i := 0) (oi := opinvert6) (v := .agg (Ls (lim x11))) rfl (by kernel_rfl) (by kernel_rfl) (by kernel_rfl) (fun _ _ _ h => h) (yload (by rfl) _ rfl b5 (lim x11) rfl (by simp) rfl) hst ?_
            unfold opinvert6; simp only [Act.put, List.setIfInBounds_toArray, List.set_cons_zero, List.set_cons_succ]
            refine wpAnyH_take (i := 2) (oi := opinvert7) (v := .agg (Ls (lim x9))) rfl (by kernel_rfl) (by kernel_rfl) (by kernel_rfl) (fun _ _ _ h => h) (yload (by rfl) _ rfl b4 (lim x9) rfl (by simp) rfl) hst ?_
            unfold opinvert7; simp only [Act.put, List.setIfInBounds_toArray, List.set_cons_zero, List.set_cons_succ]
            refine wpAnyH_ready (rs := [1, 4]) (by kernel_rfl) (by simp) ?_
            refine AllReadyH.cons (o := opinvert8) rfl (fun K hK => ?_) ?_
            · unfold opinvert8
              go_simp
              refine (C_x5.out _).mono ?_
              rintro e ww3 ⟨rfl, hb2⟩
              refine hK.out _ _ (hst.call hb2) (fun hh1 => ?_)
              clear hK K
              refine wpAnyH_ready (rs := [3, 4]) (by kernel_rfl) (by simp) ?_
              refine AllReadyH.cons (o := opinvert9) rfl (fun K hK => ?_) ?_
              · unfold opinvert9
                go_simp
                refine (D_x5.out _).mono ?_
                rintro e ww6 ⟨rfl, hb5⟩
                refine hK.out _ _ (hh1.call hb5) (fun hh4 => ?_)
                clear hK K
                refine wpAnyH_ready (rs := [4]) (by kernel_rfl) (by simp) ?_
                refine AllReadyH.cons (o := opinvert10) rfl (fun K hK => ?_) ?_
                · unfold opinvert10
                  go_simp
                  have hf9 := hh4.fresh
                  have hz11 := hh4.slotlt _ (List.mem_cons_self ..)
                  have hn8 := hh4.new
                  refine hK.out _ _ (hh4.alloc _) (fun hh7 => ?_)
                  clear hK K
                  refine wpAnyH_ready (rs := [5]) (by kernel_rfl) (by simp) ?_
                  refine AllReadyH.cons (o := opinvert11) rfl (fun K hK => ?_) ?_
                  · unfold opinvert11
                    refine step_store27 rfl _ _ rfl _ (lim x5) [0, 0, 0, 0] rfl rfl hn8 rfl rfl ?_
                    refine hK.out _ _ (hh7.row _ (by omega) hf9 _ rfl hn8) (fun hh12 => ?_)
                    have hn13 := ls_row (cs := Ls (lim x5)) hn8
                    clear hK K
                    refine wpAnyH_done (by kernel_rfl) ?_ _
                    go_wp2_with fail
                    go_meet
                    exact ⟨b3, b4, b5, _, rfl, rfl, rfl, rfl, rfl, rfl, HL3.out, HL4.out, HL5.out, hz11, hh12.add (Nat.le_of_lt (Nat.lt_of_succ_lt hz11)) hn13⟩
                  exact AllReadyH.nil
                exact AllReadyH.nil
              refine AllReadyH.cons (o := opinvert10) rfl (fun K hK => ?_) ?_
              · unfold opinvert10
                go_simp
                have hf16 := hh1.fresh
                have hz18 := hh1.slotlt _ (List.mem_cons_self ..)
                have hn15 := hh1.new
                refine hK.out _ _ (hh1.alloc _) (fun hh14 => ?_)
                clear hK K
                refine wpAnyH_ready (rs := [3]) (by kernel_rfl) (by simp) ?_
                refine AllReadyH.cons (o := opinvert9) rfl (fun K hK => ?_) ?_
                · unfold opinvert9
                  go_simp
                  refine (D_x5.out _).mono ?_
                  rintro e ww21 ⟨rfl, hb20⟩
                  refine hK.out _ _ (hh14.call hb20) (fun hh19 => ?_)
                  have hn22 := (hb20.block _ (blk_lt hn15)).trans hn15
                  clear hK K
                  refine wpAnyH_ready (rs := [5]) (by kernel_rfl) (by simp) ?_
                  refine AllReadyH.cons (o := opinvert11) rfl (fun K hK => ?_) ?_
                  · unfold opinvert11
                    refine step_store27 rfl _ _ rfl _ (lim x5) [0, 0, 0, 0] rfl rfl hn22 rfl rfl ?_
                    refine hK.out _ _ (hh19.row _ (by omega) hf16 _ rfl hn22) (fun hh24 => ?_)
                    have hn25 := ls_row (cs := Ls (lim x5)) hn22
                    clear hK K
                    refine wpAnyH_done (by kernel_rfl) ?_ _
                    go_wp2_with fail
                    go_meet
                    exact ⟨b3, b4, b5, _, rfl, rfl, rfl, rfl, rfl, rfl, HL3.out, HL4.out, HL5.out, hz18, hh24.add (Nat.le_of_lt (Nat.lt_of_succ_lt hz18)) hn25⟩
                  exact AllReadyH.nil
                exact AllReadyH.nil
              exact AllReadyH.nil
            refine AllReadyH.cons (o := opinvert10) rfl (fun K hK => ?_) ?_
            · unfold opinvert10
              go_simp
              have hf28 := hst.fresh
              have hz30 := hst.slotlt _ (List.mem_cons_self ..)
              have hn27 := hst.new
              refine hK.out _ _ (hst.alloc _) (fun hh26 => ?_)
              clear hK K
              refine wpAnyH_ready (rs := [1]) (by kernel_rfl) (by simp) ?_
              refine AllReadyH.cons (o := opinvert8) rfl (fun K hK => ?_) ?_
              · unfold opinvert8
                go_simp
                refine (C_x5.out _).mono ?_
                rintro e ww33 ⟨rfl, hb32⟩
                refine hK.out _ _ (hh26.call hb32) (fun hh31 => ?_)
                have hn34 := (hb32.block _ (blk_lt hn27)).trans hn27
                clear hK K
                refine wpAnyH_ready (rs := [3]) (by kernel_rfl) (by simp) ?_
                refine AllReadyH.cons (o := opinvert9) rfl (fun K hK => ?_) ?_
                · unfold opinvert9
                  go_simp
                  refine (D_x5.out _).mono ?_
                  rintro e ww38 ⟨rfl, hb37⟩
                  refine hK.out _ _ (hh31.call hb37) (fun hh36 => ?_)
                  have hn39 := (hb37.block _ (blk_lt hn34)).trans hn34
                  clear hK K
                  refine wpAnyH_ready (rs := [5]) (by kernel_rfl) (by simp) ?_
                  refine AllReadyH.cons (o := opinvert11) rfl (fun K hK => ?_) ?_
                  · unfold opinvert11
                    refine step_store27 rfl _ _ rfl _ (lim x5) [0, 0, 0, 0] rfl rfl hn39 rfl rfl ?_
                    refine hK.out _ _ (hh36.row _ (by omega) hf28 _ rfl hn39) (fun hh41 => ?_)
                    have hn42 := ls_row (cs := Ls (lim x5)) hn39
                    clear hK K
                    refine wpAnyH_done (by kernel_rfl) ?_ _
                    go_wp2_with fail
                    go_meet
                    exact ⟨b3, b4, b5, _, rfl, rfl, rfl, rfl, rfl, rfl, HL3.out, HL4.out, HL5.out, hz30, hh41.add (Nat.le_of_lt (Nat.lt_of_succ_lt hz30)) hn42⟩
                  exact AllReadyH.nil
                exact AllReadyH.nil
              exact AllReadyH.nil
            exact AllReadyH.nil
          case rest =>
            clear HSH HL3 HL4 HL5
            obtain ⟨b3, b4, b5, b6, rfl, rfl, rfl, rfl, rfl, rfl, hl3, hl4, hl5, hl6, hS⟩ := hcut
            have HSH := Lib.hid hS
            have HL3 := Lib.hid hl3
            have HL4 := Lib.hid hl4
            have HL5 := Lib.hid hl5
            have HL6 := Lib.hid hl6
            clear hS hl3 hl4 hl5 hl6
            go_upto_region 5 with fail
            go_cut [1, 2, 3, 4, 5, 6, 7] (fun s1 s2 s3 s4 s5 s6 s7 wx => ∃ b3 b4 b5 b6 b7 : Nat, s1 = .pointer (some ⟨w.heap.size, 0, none⟩) ∧ s2 = .pointer (some ⟨w.heap.size + 1, 0, none⟩) ∧ s3 = .pointer (some ⟨b3, 0, none⟩) ∧ s4 = .pointer (some ⟨b4, 0, none⟩) ∧ s5 = .pointer (some ⟨b5, 0, none⟩) ∧ s6 = .pointer (some ⟨b6, 0, none⟩) ∧ s7 = .pointer (some ⟨b7, 0, none⟩) ∧ w.heap.size + 1 < b3 ∧ w.heap.size + 1 < b4 ∧ w.heap.size + 1 < b5 ∧ w.heap.size + 1 < b6 ∧ w.heap.size + 1 < b7 ∧ HS w [(b7, lim x10), (b6, lim x5), (b5, lim x11), (b4, lim x9), (b3, lim x2), (w.heap.size, lim v)] [w.heap.size + 1] wx)
            case first =>
              refine wp_region_held_drew (S := HS w [(b6, lim x5), (b5, lim x11), (b4, lim x9), (b3, lim x2), (w.heap.size, lim v)] [w.heap.size + 1]) (by kernel_rfl) HSH.out.drew (fun hst => ?_)
              refine wpAnyH_take (i := 0) (oi := opinvert12) (v := .agg (Ls (lim x5))) rfl (by kernel_rfl) (by kernel_rfl) (by kernel_rfl) (fun _ _ _ h => h) (yload (by rfl) _ rfl b6 (lim x5) rfl (by simp) rfl) hst ?_
              unfold opinvert12; simp only [Act.put, List.setIfInBounds_toArray, List.set_cons_zero, List.set_cons_succ]
              refine wpAnyH_take (i := 2) (oi := opinvert13) (v := .agg (Ls (lim x5))) rfl (by kernel_rfl) (by kernel_rfl) (by kernel_rfl) (fun _ _ _ h => h) (yload (by rfl) _ rfl b6 (lim x5) rfl (by simp) rfl) hst ?_
              unfold opinvert13; simp only [Act.put, List.setIfInBounds_toArray, List.set_cons_zero, List.set_cons_succ]
              refine wpAnyH_ready (rs := [1, 4]) (by kernel_rfl) (by simp) ?_
              refine AllReadyH.cons (o := opinvert14) rfl (fun K hK => ?_) ?_
              · unfold opinvert14
                go_simp
                refine (C_x10.out _).mono ?_
                rintro e ww3 ⟨rfl, hb2⟩
                refine hK.out _ _ (hst.call hb2) (fun hh1 => ?_)
                clear hK K
                refine wpAnyH_ready (rs := [3, 4]) (by kernel_rfl) (by simp) ?_
                refine AllReadyH.cons (o := opinvert15) rfl (fun K hK => ?_) ?_
                · unfold opinvert15
                  go_simp
                  refine (D_x10.out _).mono ?_
                  rintro e ww6 ⟨rfl, hb5⟩
                  refine hK.out _ _ (hh1.call hb5) (fun hh4 => ?_)
                  clear hK K
                  refine wpAnyH_ready (rs := [4]) (by kernel_rfl) (by simp) ?_
                  refine AllReadyH.cons (o := opinvert16) rfl (fun K hK => ?_) ?_
                  · unfold opinvert16
                    go_simp
                    have hf9 := hh4.fresh
                    have hz11 := hh4.slotlt _ (List.mem_cons_self ..)
                    have hn8 := hh4.new
                    refine hK.out _ _ (hh4.alloc _) (fun hh7 => ?_)
                    clear hK K
                    refine wpAnyH_ready (rs := [5]) (by kernel_rfl) (by simp) ?_
                    refine AllReadyH.cons (o := opinvert17) rfl (fun K hK => ?_) ?_
                    · unfold opinvert17
                      refine step_store27 rfl _ _ rfl _ (lim x10) [0, 0, 0, 0] rfl rfl hn8 rfl rfl ?_
                      refine hK.out _ _ (hh7.row _ (by omega) hf9 _ rfl hn8) (fun hh12 => ?_)
                      have hn13 := ls_row (cs := Ls (lim x10)) hn8
                      clear hK K
                      refine wpAnyH_done (by kernel_rfl) ?_ _
                      go_wp2_with fail
                      go_meet
                      exact ⟨b3, b4, b5, b6, _, rfl, rfl, rfl, rfl, rfl, rfl, rfl, HL3.out, HL4.out, HL5.out, HL6.out, hz11, hh12.add (Nat.le_of_lt (Nat.lt_of_succ_lt hz11)) hn13⟩
                    exact AllReadyH.nil
                  exact AllReadyH.nil
                refine AllReadyH.cons (o := opinvert16) rfl (fun K hK => ?_) ?_
                · unfold opinvert16
                  go_simp
                  have hf16 := hh1.fresh
                  have hz18 := hh1.slotlt _ (List.mem_cons_self ..)
                  have hn15 := hh1.new
                  refine hK.out _ _ (hh1.alloc _) (fun hh14 => ?_)
                  clear hK K
                  refine wpAnyH_ready (rs := [3]) (by kernel_rfl) (by simp) ?_
                  refine AllReadyH.cons (o := opinvert15) rfl (fun K hK => ?_) ?_
                  · unfold opinvert15
                    go_simp
                    refine (D_x10.out _).mono ?_
                    rintro e ww21 ⟨rfl, hb20⟩
                    refine hK.out _ _ (hh14.call hb20) (fun hh19 => ?_)
                    have hn22 := (hb20.block _ (blk_lt hn15)).trans hn15
                    clear hK K
                    refine wpAnyH_ready (rs := [5]) (by kernel_rfl) (by simp) ?_
                    refine AllReadyH.cons (o := opinvert17) rfl (fun K hK => ?_) ?_
                    · unfold opinvert17
                      refine step_store27 rfl _ _ rfl _ (lim x10) [0, 0, 0, 0] rfl rfl hn22 rfl rfl ?_
                      refine hK.out _ _ (hh19.row _ (by omega) hf16 _ rfl hn22) (fun hh24 => ?_)
                      have hn25 := ls_row (cs := Ls (lim x10)) hn22
                      clear hK K
                      refine wpAnyH_done (by kernel_rfl) ?_ _
                      go_wp2_with fail
                      go_meet
                      exact ⟨b3, b4, b5, b6, _, rfl, rfl, rfl, rfl, rfl, rfl, rfl, HL3.out, HL4.out, HL5.out, HL6.out, hz18, hh24.add (Nat.le_of_lt (Nat.lt_of_succ_lt hz18)) hn25⟩
                    exact AllReadyH.nil
                  exact AllReadyH.nil
                exact AllReadyH.nil
              refine AllReadyH.cons (o := opinvert16) rfl (fun K hK => ?_) ?_
              · unfold opinvert16
                go_simp
                have hf28 := hst.fresh
                have hz30 := hst.slotlt _ (List.mem_cons_self ..)
                have hn27 := hst.new
                refine hK.out _ _ (hst.alloc _) (fun hh26 => ?_)
                clear hK K
                refine wpAnyH_ready (rs := [1]) (by kernel_rfl) (by simp) ?_
                refine AllReadyH.cons (o := opinvert14) rfl (fun K hK => ?_) ?_
                · unfold opinvert14
                  go_simp
                  refine (C_x10.out _).mono ?_
                  rintro e ww33 ⟨rfl, hb32⟩
                  refine hK.out _ _ (hh26.call hb32) (fun hh31 => ?_)
                  have hn34 := (hb32.block _ (blk_lt hn27)).trans hn27
                  clear hK K
                  refine wpAnyH_ready (rs := [3]) (by kernel_rfl) (by simp) ?_
                  refine AllReadyH.cons (o := opinvert15) rfl (fun K hK => ?_) ?_
                  · unfold opinvert15
                    go_simp
                    refine (D_x10.out _).mono ?_
                    rintro e ww38 ⟨rfl, hb37⟩
                    refine hK.out _ _ (hh31.call hb37) (fun hh36 => ?_)
                    have hn39 := (hb37.block _ (blk_lt hn34)).trans hn34
                    clear hK K
                    refine wpAnyH_ready (rs := [5]) (by kernel_rfl) (by simp) ?_
                    refine AllReadyH.cons (o := opinvert17) rfl (fun K hK => ?_) ?_
                    · unfold opinvert17
                      refine step_store27 rfl _ _ rfl _ (lim x10) [0, 0, 0, 0] rfl rfl hn39 rfl rfl ?_
                      refine hK.out _ _ (hh36.row _ (by omega) hf28 _ rfl hn39) (fun hh41 => ?_)
                      have hn42 := ls_row (cs := Ls (lim x10)) hn39
                      clear hK K
                      refine wpAnyH_done (by kernel_rfl) ?_ _
                      go_wp2_with fail
                      go_meet
                      exact ⟨b3, b4, b5, b6, _, rfl, rfl, rfl, rfl, rfl, rfl, rfl, HL3.out, HL4.out, HL5.out, HL6.out, hz30, hh41.add (Nat.le_of_lt (Nat.lt_of_succ_lt hz30)) hn42⟩
                    exact AllReadyH.nil
                  exact AllReadyH.nil
                exact AllReadyH.nil
              exact AllReadyH.nil
            case rest =>
              clear HSH HL3 HL4 HL5 HL6
              obtain ⟨b3, b4, b5, b6, b7, rfl, rfl, rfl, rfl, rfl, rfl, rfl, hl3, hl4, hl5, hl6, hl7, hS⟩ := hcut
              have HSH := Lib.hid hS
              have HL3 := Lib.hid hl3
              have HL4 := Lib.hid hl4
              have HL5 := Lib.hid hl5
              have HL6 := Lib.hid hl6
              have HL7 := Lib.hid hl7
              clear hS hl3 hl4 hl5 hl6 hl7
              go_upto_region 6 with fail
              go_cut [1, 2, 3, 4, 5, 6, 7, 8] (fun s1 s2 s3 s4 s5 s6 s7 s8 wx => ∃ b3 b4 b5 b6 b7 b8 : Nat, s1 = .pointer (some ⟨w.heap.size, 0, none⟩) ∧ s2 = .pointer (some ⟨w.heap.size + 1, 0, none⟩) ∧ s3 = .pointer (some ⟨b3, 0, none⟩) ∧ s4 = .pointer (some ⟨b4, 0, none⟩) ∧ s5 = .pointer (some ⟨b5, 0, none⟩) ∧ s6 = .pointer (some ⟨b6, 0, none⟩) ∧ s7 = .pointer (some ⟨b7, 0, none⟩) ∧ s8 = .pointer (some ⟨b8, 0, none⟩) ∧ w.heap.size + 1 < b3 ∧ w.heap.size + 1 < b4 ∧ w.heap.size + 1 < b5 ∧ w.heap.size + 1 < b6 ∧ w.heap.size + 1 < b7 ∧ w.heap.size + 1 < b8 ∧ HS w [(b8, lim x20), (b7, lim x10), (b6, lim x5), (b5, lim x11), (b4, lim x9), (b3, lim x2), (w.heap.size, lim v)] [w.heap.size + 1] wx)
              case first =>
                refine wp_region_held_drew (S := HS w [(b7, lim x10), (b6, lim x5), (b5, lim x11), (b4, lim x9), (b3, lim x2), (w.heap.size, lim v)] [w.heap.size + 1]) (by kernel_rfl) HSH.out.drew (fun hst => ?_)
                refine wpAnyH_take (i := 0) (oi := opinvert18) (v := .agg (Ls (lim x10))) rfl (by kernel_rfl) (by kernel_rfl) (by kernel_rfl) (fun _ _ _ h => h) (yload (by rfl) _ rfl b7 (lim x10) rfl (by simp) rfl) hst ?_
                unfold opinvert18; simp only [Act.put, List.setIfInBounds_toArray, List.set_cons_zero, List.set_cons_succ]
                refine wpAnyH_take (i := 2) (oi := opinvert19) (v := .agg (Ls (lim x10))) rfl (by kernel_rfl) (by kernel_rfl) (by kernel_rfl) (fun _ _ _ h => h) (yload (by rfl) _ rfl b7 (lim x10) rfl (by simp) rfl) hst ?_
                unfold opinvert19; simp only [Act.put, List.setIfInBounds_toArray, List.set_cons_zero, List.set_cons_succ]
                refine wpAnyH_ready (rs := [1, 4]) (by kernel_rfl) (by simp) ?_
                refine AllReadyH.cons (o := opinvert20) rfl (fun K hK => ?_) ?_
                · unfold opinvert20
                  go_simp
                  refine (C_x20.out _).mono ?_
                  rintro e ww3 ⟨rfl, hb2⟩
                  refine hK.out _ _ (hst.call hb2) (fun hh1 => ?_)
                  clear hK K
                  refine wpAnyH_ready (rs := [3, 4]) (by kernel_rfl) (by simp) ?_
                  refine AllReadyH.cons (o := opinvert21) rfl (fun K hK => ?_) ?_
                  · unfold opinvert21
                    go_simp
                    refine (D_x20.out _).mono ?_
                    rintro e ww6 ⟨rfl, hb5⟩
                    refine hK.out _ _ (hh1.call hb5) (fun hh4 => ?_)
                    clear hK K
                    refine wpAnyH_ready (rs := [4]) (by kernel_rfl) (by simp) ?_
                    refine AllReadyH.cons (o := opinvert22) rfl (fun K hK => ?_) ?_
                    · unfold opinvert22
                      go_simp
                      have hf9 := hh4.fresh
                      have hz11 := hh4.slotlt _ (List.mem_cons_self ..)
                      have hn8 := hh4.new
                      refine hK.out _ _ (hh4.alloc _) (fun hh7 => ?_)
                      clear hK K
                      refine wpAnyH_ready (rs := [5]) (by kernel_rfl) (by simp) ?_
                      refine AllReadyH.cons (o := opinvert23) rfl (fun K hK => ?_) ?_
                      · unfold opinvert23
                        refine step_store27 rfl _ _ rfl _ (lim x20) [0, 0, 0, 0] rfl rfl hn8 rfl rfl ?_
                        refine hK.out _ _ (hh7.row _ (by omega) hf9 _ rfl hn8) (fun hh12 => ?_)
                        have hn13 := ls_row (cs := Ls (lim x20)) hn8
                        clear hK K
                        refine wpAnyH_done (by kernel_rfl) ?_ _
                        go_wp2_with fail
                        go_meet
                        exact ⟨b3, b4, b5, b6, b7, _, rfl, rfl, rfl, rfl, rfl, rfl, rfl, rfl, HL3.out, HL4.out, HL5.out, HL6.out, HL7.out, hz11, hh12.add (Nat.le_of_lt (Nat.lt_of_succ_lt hz11)) hn13⟩
                      exact AllReadyH.nil
                    exact AllReadyH.nil
                  refine AllReadyH.cons (o := opinvert22) rfl (fun K hK => ?_) ?_
                  · unfold opinvert22
                    go_simp
                    have hf16 := hh1.fresh
                    have hz18 := hh1.slotlt _ (List.mem_cons_self ..)
                    have hn15 := hh1.new
                    refine hK.out _ _ (hh1.alloc _) (fun hh14 => ?_)
                    clear hK K
                    refine wpAnyH_ready (rs := [3]) (by kernel_rfl) (by simp) ?_
                    refine AllReadyH.cons (o := opinvert21) rfl (fun K hK => ?_) ?_
                    · unfold opinvert21
                      go_simp
                      refine (D_x20.out _).mono ?_
                      rintro e ww21 ⟨rfl, hb20⟩
                      refine hK.out _ _ (hh14.call hb20) (fun hh19 => ?_)
                      have hn22 := (hb20.block _ (blk_lt hn15)).trans hn15
                      clear hK K
                      refine wpAnyH_ready (rs := [5]) (by kernel_rfl) (by simp) ?_
                      refine AllReadyH.cons (o := opinvert23) rfl (fun K hK => ?_) ?_
                      · unfold opinvert23
                        refine step_store27 rfl _ _ rfl _ (lim x20) [0, 0, 0, 0] rfl rfl hn22 rfl rfl ?_
                        refine hK.out _ _ (hh19.row _ (by omega) hf16 _ rfl hn22) (fun hh24 => ?_)
                        have hn25 := ls_row (cs := Ls (lim x20)) hn22
                        clear hK K
                        refine wpAnyH_done (by kernel_rfl) ?_ _
                        go_wp2_with fail
                        go_meet
                        exact ⟨b3, b4, b5, b6, b7, _, rfl, rfl, rfl, rfl, rfl, rfl, rfl, rfl, HL3.out, HL4.out, HL5.out, HL6.out, HL7.out, hz18, hh24.add (Nat.le_of_lt (Nat.lt_of_succ_lt hz18)) hn25⟩
                      exact AllReadyH.nil
                    exact AllReadyH.nil
                  exact AllReadyH.nil
                refine AllReadyH.cons (o := opinvert22) rfl (fun K hK => ?_) ?_
                · unfold opinvert22
                  go_simp
                  have hf28 := hst.fresh
                  have hz30 := hst.slotlt _ (List.mem_cons_self ..)
                  have hn27 := hst.new
                  refine hK.out _ _ (hst.alloc _) (fun hh26 => ?_)
                  clear hK K
                  refine wpAnyH_ready (rs := [1]) (by kernel_rfl) (by simp) ?_
                  refine AllReadyH.cons (o := opinvert20) rfl (fun K hK => ?_) ?_
                  · unfold opinvert20
                    go_simp
                    refine (C_x20.out _).mono ?_
                    rintro e ww33 ⟨rfl, hb32⟩
                    refine hK.out _ _ (hh26.call hb32) (fun hh31 => ?_)
                    have hn34 := (hb32.block _ (blk_lt hn27)).trans hn27
                    clear hK K
                    refine wpAnyH_ready (rs := [3]) (by kernel_rfl) (by simp) ?_
                    refine AllReadyH.cons (o := opinvert21) rfl (fun K hK => ?_) ?_
                    · unfold opinvert21
                      go_simp
                      refine (D_x20.out _).mono ?_
                      rintro e ww38 ⟨rfl, hb37⟩
                      refine hK.out _ _ (hh31.call hb37) (fun hh36 => ?_)
                      have hn39 := (hb37.block _ (blk_lt hn34)).trans hn34
                      clear hK K
                      refine wpAnyH_ready (rs := [5]) (by kernel_rfl) (by simp) ?_
                      refine AllReadyH.cons (o := opinvert23) rfl (fun K hK => ?_) ?_
                      · unfold opinvert23
                        refine step_store27 rfl _ _ rfl _ (lim x20) [0, 0, 0, 0] rfl rfl hn39 rfl rfl ?_
                        refine hK.out _ _ (hh36.row _ (by omega) hf28 _ rfl hn39) (fun hh41 => ?_)
                        have hn42 := ls_row (cs := Ls (lim x20)) hn39
                        clear hK K
                        refine wpAnyH_done (by kernel_rfl) ?_ _
                        go_wp2_with fail
                        go_meet
                        exact ⟨b3, b4, b5, b6, b7, _, rfl, rfl, rfl, rfl, rfl, rfl, rfl, rfl, HL3.out, HL4.out, HL5.out, HL6.out, HL7.out, hz30, hh41.add (Nat.le_of_lt (Nat.lt_of_succ_lt hz30)) hn42⟩
                      exact AllReadyH.nil
                    exact AllReadyH.nil
                  exact AllReadyH.nil
                exact AllReadyH.nil
              case rest =>
                clear HSH HL3 HL4 HL5 HL6 HL7
                obtain ⟨b3, b4, b5, b6, b7, b8, rfl, rfl, rfl, rfl, rfl, rfl, rfl, rfl, hl3, hl4, hl5, hl6, hl7, hl8, hS⟩ := hcut
                have HSH := Lib.hid hS
                have HL3 := Lib.hid hl3
                have HL4 := Lib.hid hl4
                have HL5 := Lib.hid hl5
                have HL6 := Lib.hid hl6
                have HL7 := Lib.hid hl7
                have HL8 := Lib.hid hl8
                clear hS hl3 hl4 hl5 hl6 hl7 hl8
                go_upto_region 7 with fail
                go_cut [1, 2, 3, 4, 5, 6, 7, 8, 9] (fun s1 s2 s3 s4 s5 s6 s7 s8 s9 wx => ∃ b3 b4 b5 b6 b7 b8 b9 : Nat, s1 = .pointer (some ⟨w.heap.size, 0, none⟩) ∧ s2 = .pointer (some ⟨w.heap.size + 1, 0, none⟩) ∧ s3 = .pointer (some ⟨b3, 0, none⟩) ∧ s4 = .pointer (some ⟨b4, 0, none⟩) ∧ s5 = .pointer (some ⟨b5, 0, none⟩) ∧ s6 = .pointer (some ⟨b6, 0, none⟩) ∧ s7 = .pointer (some ⟨b7, 0, none⟩) ∧ s8 = .pointer (some ⟨b8, 0, none⟩) ∧ s9 = .pointer (some ⟨b9, 0, none⟩) ∧ w.heap.size + 1 < b3 ∧ w.heap.size + 1 < b4 ∧ w.heap.size + 1 < b5 ∧ w.heap.size + 1 < b6 ∧ w.heap.size + 1 < b7 ∧ w.heap.size + 1 < b8 ∧ w.heap.size + 1 < b9 ∧ HS w [(b9, lim x40), (b8, lim x20), (b7, lim x10), (b6, lim x5), (b5, lim x11), (b4, lim x9), (b3, lim x2), (w.heap.size, lim v)] [w.heap.size + 1] wx)
                case first =>
                  refine wp_region_held_drew (S := HS w [(b8, lim x20), (b7, lim x10), (b6, lim x5), (b5, lim x11), (b4, lim x9), (b3, lim x2), (w.heap.size, lim v)] [w.heap.size + 1]) (by kernel_rfl) HSH.out.drew (fun hst => ?_)
                  refine wpAnyH_take (i := 0) (oi := opinvert24) (v := .agg (Ls (lim x20))) rfl (by kernel_rfl) (by kernel_rfl) (by kernel_rfl) (fun _ _ _ h => h) (yload (by rfl) _ rfl b8 (lim x20) rfl (by simp) rfl) hst ?_
                  unfold opinvert24; simp only [Act.put, List.setIfInBounds_toArray, List.set_cons_zero, List.set_cons_succ]
                  refine wpAnyH_take (i := 2) (oi := opinvert25) (v := .agg (Ls (lim x20))) rfl (by kernel_rfl) (by kernel_rfl) (by kernel_rfl) (fun _ _ _ h => h) (yload (by rfl) _ rfl b8 (lim x20) rfl (by simp) rfl) hst ?_
                  unfold opinvert25; simp only [Act.put, List.setIfInBounds_toArray, List.set_cons_zero, List.set_cons_succ]
                  refine wpAnyH_ready (rs := [1, 4]) (by kernel_rfl) (by simp) ?_
                  refine AllReadyH.cons (o := opinvert26) rfl (fun K hK => ?_) ?_
                  · unfold opinvert26
                    go_simp
                    refine (C_x40.out _).mono ?_
                    rintro e ww3 ⟨rfl, hb2⟩
                    refine hK.out _ _ (hst.call hb2) (fun hh1 => ?_)
                    clear hK K
                    refine wpAnyH_ready (rs := [3, 4]) (by kernel_rfl) (by simp) ?_
                    refine AllReadyH.cons (o := opinvert27) rfl (fun K hK => ?_) ?_
                    · unfold opinvert27
                      go_simp
                      refine (D_x40.out _).mono ?_
                      rintro e ww6 ⟨rfl, hb5⟩
                      refine hK.out _ _ (hh1.call hb5) (fun hh4 => ?_)
                      clear hK K
                      refine wpAnyH_ready (rs := [4]) (by kernel_rfl) (by simp) ?_
                      refine AllReadyH.cons (o := opinvert28) rfl (fun K hK => ?_) ?_
                      · unfold opinvert28
                        go_simp
                        have hf9 := hh4.fresh
                        have hz11 := hh4.slotlt _ (List.mem_cons_self ..)
                        have hn8 := hh4.new
                        refine hK.out _ _ (hh4.alloc _) (fun hh7 => ?_)
                        clear hK K
                        refine wpAnyH_ready (rs := [5]) (by kernel_rfl) (by simp) ?_
                        refine AllReadyH.cons (o := opinvert29) rfl (fun K hK => ?_) ?_
                        · unfold opinvert29
                          refine step_store27 rfl _ _ rfl _ (lim x40) [0, 0, 0, 0] rfl rfl hn8 rfl rfl ?_
                          refine hK.out _ _ (hh7.row _ (by omega) hf9 _ rfl hn8) (fun hh12 => ?_)
                          have hn13 := ls_row (cs := Ls (lim x40)) hn8
                          clear hK K
                          refine wpAnyH_done (by kernel_rfl) ?_ _
                          go_wp2_with fail
                          go_meet
                          exact ⟨b3, b4, b5, b6, b7, b8, _, rfl, rfl, rfl, rfl, rfl, rfl, rfl, rfl, rfl, HL3.out, HL4.out, HL5.out, HL6.out, HL7.out, HL8.out, hz11, hh12.add (Nat.le_of_lt (Nat.lt_of_succ_lt hz11)) hn13⟩
                        exact AllReadyH.nil
                      exact AllReadyH.nil
                    refine AllReadyH.cons (o := opinvert28) rfl (fun K hK => ?_) ?_
                    · unfold opinvert28
                      go_simp
                      have hf16 := hh1.fresh
                      have hz18 := hh1.slotlt _ (List.mem_cons_self ..)
                      have hn15 := hh1.new
                      refine hK.out _ _ (hh1.alloc _) (fun hh14 => ?_)
                      clear hK K
                      refine wpAnyH_ready (rs := [3]) (by kernel_rfl) (by simp) ?_
                      refine AllReadyH.cons (o := opinvert27) rfl (fun K hK => ?_) ?_
                      · unfold opinvert27
                        go_simp
                        refine (D_x40.out _).mono ?_
                        rintro e ww21 ⟨rfl, hb20⟩
                        refine hK.out _ _ (hh14.call hb20) (fun hh19 => ?_)
                        have hn22 := (hb20.block _ (blk_lt hn15)).trans hn15
                        clear hK K
                        refine wpAnyH_ready (rs := [5]) (by kernel_rfl) (by simp) ?_
                        refine AllReadyH.cons (o := opinvert29) rfl (fun K hK => ?_) ?_
                        · unfold opinvert29
                          refine step_store27 rfl _ _ rfl _ (lim x40) [0, 0, 0, 0] rfl rfl hn22 rfl rfl ?_
                          refine hK.out _ _ (hh19.row _ (by omega) hf16 _ rfl hn22) (fun hh24 => ?_)
                          have hn25 := ls_row (cs := Ls (lim x40)) hn22
                          clear hK K
                          refine wpAnyH_done (by kernel_rfl) ?_ _
                          go_wp2_with fail
                          go_meet
                          exact ⟨b3, b4, b5, b6, b7, b8, _, rfl, rfl, rfl, rfl, rfl, rfl, rfl, rfl, rfl, HL3.out, HL4.out, HL5.out, HL6.out, HL7.out, HL8.out, hz18, hh24.add (Nat.le_of_lt (Nat.lt_of_succ_lt hz18)) hn25⟩
                        exact AllReadyH.nil
                      exact AllReadyH.nil
                    exact AllReadyH.nil
                  refine AllReadyH.cons (o := opinvert28) rfl (fun K hK => ?_) ?_
                  · unfold opinvert28
                    go_simp
                    have hf28 := hst.fresh
                    have hz30 := hst.slotlt _ (List.mem_cons_self ..)
                    have hn27 := hst.new
                    refine hK.out _ _ (hst.alloc _) (fun hh26 => ?_)
                    clear hK K
                    refine wpAnyH_ready (rs := [1]) (by kernel_rfl) (by simp) ?_
                    refine AllReadyH.cons (o := opinvert26) rfl (fun K hK => ?_) ?_
                    · unfold opinvert26
                      go_simp
                      refine (C_x40.out _).mono ?_
                      rintro e ww33 ⟨rfl, hb32⟩
                      refine hK.out _ _ (hh26.call hb32) (fun hh31 => ?_)
                      have hn34 := (hb32.block _ (blk_lt hn27)).trans hn27
                      clear hK K
                      refine wpAnyH_ready (rs := [3]) (by kernel_rfl) (by simp) ?_
                      refine AllReadyH.cons (o := opinvert27) rfl (fun K hK => ?_) ?_
                      · unfold opinvert27
                        go_simp
                        refine (D_x40.out _).mono ?_
                        rintro e ww38 ⟨rfl, hb37⟩
                        refine hK.out _ _ (hh31.call hb37) (fun hh36 => ?_)
                        have hn39 := (hb37.block _ (blk_lt hn34)).trans hn34
                        clear hK K
                        refine wpAnyH_ready (rs := [5]) (by kernel_rfl) (by simp) ?_
                        refine AllReadyH.cons (o := opinvert29) rfl (fun K hK => ?_) ?_
                        · unfold opinvert29
                          refine step_store27 rfl _ _ rfl _ (lim x40) [0, 0, 0, 0] rfl rfl hn39 rfl rfl ?_
                          refine hK.out _ _ (hh36.row _ (by omega) hf28 _ rfl hn39) (fun hh41 => ?_)
                          have hn42 := ls_row (cs := Ls (lim x40)) hn39
                          clear hK K
                          refine wpAnyH_done (by kernel_rfl) ?_ _
                          go_wp2_with fail
                          go_meet
                          exact ⟨b3, b4, b5, b6, b7, b8, _, rfl, rfl, rfl, rfl, rfl, rfl, rfl, rfl, rfl, HL3.out, HL4.out, HL5.out, HL6.out, HL7.out, HL8.out, hz30, hh41.add (Nat.le_of_lt (Nat.lt_of_succ_lt hz30)) hn42⟩
                        exact AllReadyH.nil
                      exact AllReadyH.nil
                    exact AllReadyH.nil
                  exact AllReadyH.nil
                case rest =>
                  clear HSH HL3 HL4 HL5 HL6 HL7 HL8
                  obtain ⟨b3, b4, b5, b6, b7, b8, b9, rfl, rfl, rfl, rfl, rfl, rfl, rfl, rfl, rfl, hl3, hl4, hl5, hl6, hl7, hl8, hl9, hS⟩ := hcut
                  have HSH := Lib.hid hS
                  have HL3 := Lib.hid hl3
                  have HL4 := Lib.hid hl4
                  have HL5 := Lib.hid hl5
                  have HL6 := Lib.hid hl6
                  have HL7 := Lib.hid hl7
                  have HL8 := Lib.hid hl8
                  have HL9 := Lib.hid hl9
                  clear hS hl3 hl4 hl5 hl6 hl7 hl8 hl9
                  go_upto_region 8 with fail
                  go_cut [1, 2, 3, 4, 5, 6, 7, 8, 9, 10] (fun s1 s2 s3 s4 s5 s6 s7 s8 s9 s10 wx => ∃ b3 b4 b5 b6 b7 b8 b9 b10 : Nat, s1 = .pointer (some ⟨w.heap.size, 0, none⟩) ∧ s2 = .pointer (some ⟨w.heap.size + 1, 0, none⟩) ∧ s3 = .pointer (some ⟨b3, 0, none⟩) ∧ s4 = .pointer (some ⟨b4, 0, none⟩) ∧ s5 = .pointer (some ⟨b5, 0, none⟩) ∧ s6 = .pointer (some ⟨b6, 0, none⟩) ∧ s7 = .pointer (some ⟨b7, 0, none⟩) ∧ s8 = .pointer (some ⟨b8, 0, none⟩) ∧ s9 = .pointer (some ⟨b9, 0, none⟩) ∧ s10 = .pointer (some ⟨b10, 0, none⟩) ∧ w.heap.size + 1 < b3 ∧ w.heap.size + 1 < b4 ∧ w.heap.size + 1 < b5 ∧ w.heap.size + 1 < b6 ∧ w.heap.size + 1 < b7 ∧ w.heap.size + 1 < b8 ∧ w.heap.size + 1 < b9 ∧ w.heap.size + 1 < b10 ∧ HS w [(b10, lim x50), (b9, lim x40), (b8, lim x20), (b7, lim x10), (b6, lim x5), (b5, lim x11), (b4, lim x9), (b3, lim x2), (w.heap.size, lim v)] [w.heap.size + 1] wx)
                  case first =>
                    refine wp_region_held_drew (S := HS w [(b9, lim x40), (b8, lim x20), (b7, lim x10), (b6, lim x5), (b5, lim x11), (b4, lim x9), (b3, lim x2), (w.heap.size, lim v)] [w.heap.size + 1]) (by kernel_rfl) HSH.out.drew (fun hst => ?_)
                    refine wpAnyH_take (i := 0) (oi := opinvert30) (v := .agg (Ls (lim x40))) rfl (by kernel_rfl) (by kernel_rfl) (by kernel_rfl) (fun _ _ _ h => h) (yload (by rfl) _ rfl b9 (lim x40) rfl (by simp) rfl) hst ?_
                    unfold opinvert30; simp only [Act.put, List.setIfInBounds_toArray, List.set_cons_zero, List.set_cons_succ]
                    refine wpAnyH_take (i := 2) (oi := opinvert31) (v := .agg (Ls (lim x10))) rfl (by kernel_rfl) (by kernel_rfl) (by kernel_rfl) (fun _ _ _ h => h) (yload (by rfl) _ rfl b7 (lim x10) rfl (by simp) rfl) hst ?_
                    unfold opinvert31; simp only [Act.put, List.setIfInBounds_toArray, List.set_cons_zero, List.set_cons_succ]
                    refine wpAnyH_ready (rs := [1, 4]) (by kernel_rfl) (by simp) ?_
                    refine AllReadyH.cons (o := opinvert32) rfl (fun K hK => ?_) ?_
                    · unfold opinvert32
                      go_simp
                      refine (C_x50.out _).mono ?_
                      rintro e ww3 ⟨rfl, hb2⟩
                      refine hK.out _ _ (hst.call hb2) (fun hh1 => ?_)
                      clear hK K
                      refine wpAnyH_ready (rs := [3, 4]) (by kernel_rfl) (by simp) ?_
                      refine AllReadyH.cons (o := opinvert33) rfl (fun K hK => ?_) ?_
                      · unfold opinvert33
                        go_simp
                        refine (D_x50.out _).mono ?_
                        rintro e ww6 ⟨rfl, hb5⟩
                        refine hK.out _ _ (hh1.call hb5) (fun hh4 => ?_)
                        clear hK K
                        refine wpAnyH_ready (rs := [4]) (by kernel_rfl) (by simp) ?_
                        refine AllReadyH.cons (o := opinvert34) rfl (fun K hK => ?_) ?_
                        · unfold opinvert34
                          go_simp
                          have hf9 := hh4.fresh
                          have hz11 := hh4.slotlt _ (List.mem_cons_self ..)
                          have hn8 := hh4.new
                          refine hK.out _ _ (hh4.alloc _) (fun hh7 => ?_)
                          clear hK K
                          refine wpAnyH_ready (rs := [5]) (by kernel_rfl) (by simp) ?_
                          refine AllReadyH.cons (o := opinvert35) rfl (fun K hK => ?_) ?_
                          · unfold opinvert35
                            refine step_store27 rfl _ _ rfl _ (lim x50) [0, 0, 0, 0] rfl rfl hn8 rfl rfl ?_
                            refine hK.out _ _ (hh7.row _ (by omega) hf9 _ rfl hn8) (fun hh12 => ?_)
                            have hn13 := ls_row (cs := Ls (lim x50)) hn8
                            clear hK K
                            refine wpAnyH_done (by kernel_rfl) ?_ _
                            go_wp2_with fail
                            go_meet
                            exact ⟨b3, b4, b5, b6, b7, b8, b9, _, rfl, rfl, rfl, rfl, rfl, rfl, rfl, rfl, rfl, rfl, HL3.out, HL4.out, HL5.out, HL6.out, HL7.out, HL8.out, HL9.out, hz11, hh12.add (Nat.le_of_lt (Nat.lt_of_succ_lt hz11)) hn13⟩
                          exact AllReadyH.nil
                        exact AllReadyH.nil
                      refine AllReadyH.cons (o := opinvert34) rfl (fun K hK => ?_) ?_
                      · unfold opinvert34
                        go_simp
                        have hf16 := hh1.fresh
                        have hz18 := hh1.slotlt _ (List.mem_cons_self ..)
                        have hn15 := hh1.new
                        refine hK.out _ _ (hh1.alloc _) (fun hh14 => ?_)
                        clear hK K
                        refine wpAnyH_ready (rs := [3]) (by kernel_rfl) (by simp) ?_
                        refine AllReadyH.cons (o := opinvert33) rfl (fun K hK => ?_) ?_
                        · unfold opinvert33
                          go_simp
                          refine (D_x50.out _).mono ?_
                          rintro e ww21 ⟨rfl, hb20⟩
                          refine hK.out _ _ (hh14.call hb20) (fun hh19 => ?_)
                          have hn22 := (hb20.block _ (blk_lt hn15)).trans hn15
                          clear hK K
                          refine wpAnyH_ready (rs := [5]) (by kernel_rfl) (by simp) ?_
                          refine AllReadyH.cons (o := opinvert35) rfl (fun K hK => ?_) ?_
                          · unfold opinvert35
                            refine step_store27 rfl _ _ rfl _ (lim x50) [0, 0, 0, 0] rfl rfl hn22 rfl rfl ?_
                            refine hK.out _ _ (hh19.row _ (by omega) hf16 _ rfl hn22) (fun hh24 => ?_)
                            have hn25 := ls_row (cs := Ls (lim x50)) hn22
                            clear hK K
                            refine wpAnyH_done (by kernel_rfl) ?_ _
                            go_wp2_with fail
                            go_meet
                            exact ⟨b3, b4, b5, b6, b7, b8, b9, _, rfl, rfl, rfl, rfl, rfl, rfl, rfl, rfl, rfl, rfl, HL3.out, HL4.out, HL5.out, HL6.out, HL7.out, HL8.out, HL9.out, hz18, hh24.add (Nat.le_of_lt (Nat.lt_of_succ_lt hz18)) hn25⟩
                          exact AllReadyH.nil
                        exact AllReadyH.nil
                      exact AllReadyH.nil
                    refine AllReadyH.cons (o := opinvert34) rfl (fun K hK => ?_) ?_
                    · unfold opinvert34
                      go_simp
                      have hf28 := hst.fresh
                      have hz30 := hst.slotlt _ (List.mem_cons_self ..)
                      have hn27 := hst.new
                      refine hK.out _ _ (hst.alloc _) (fun hh26 => ?_)
                      clear hK K
                      refine wpAnyH_ready (rs := [1]) (by kernel_rfl) (by simp) ?_
                      refine AllReadyH.cons (o := opinvert32) rfl (fun K hK => ?_) ?_
                      · unfold opinvert32
                        go_simp
                        refine (C_x50.out _).mono ?_
                        rintro e ww33 ⟨rfl, hb32⟩
                        refine hK.out _ _ (hh26.call hb32) (fun hh31 => ?_)
                        have hn34 := (hb32.block _ (blk_lt hn27)).trans hn27
                        clear hK K
                        refine wpAnyH_ready (rs := [3]) (by kernel_rfl) (by simp) ?_
                        refine AllReadyH.cons (o := opinvert33) rfl (fun K hK => ?_) ?_
                        · unfold opinvert33
                          go_simp
                          refine (D_x50.out _).mono ?_
                          rintro e ww38 ⟨rfl, hb37⟩
                          refine hK.out _ _ (hh31.call hb37) (fun hh36 => ?_)
                          have hn39 := (hb37.block _ (blk_lt hn34)).trans hn34
                          clear hK K
                          refine wpAnyH_ready (rs := [5]) (by kernel_rfl) (by simp) ?_
                          refine AllReadyH.cons (o := opinvert35) rfl (fun K hK => ?_) ?_
                          · unfold opinvert35
                            refine step_store27 rfl _ _ rfl _ (lim x50) [0, 0, 0, 0] rfl rfl hn39 rfl rfl ?_
                            refine hK.out _ _ (hh36.row _ (by omega) hf28 _ rfl hn39) (fun hh41 => ?_)
                            have hn42 := ls_row (cs := Ls (lim x50)) hn39
                            clear hK K
                            refine wpAnyH_done (by kernel_rfl) ?_ _
                            go_wp2_with fail
                            go_meet
                            exact ⟨b3, b4, b5, b6, b7, b8, b9, _, rfl, rfl, rfl, rfl, rfl, rfl, rfl, rfl, rfl, rfl, HL3.out, HL4.out, HL5.out, HL6.out, HL7.out, HL8.out, HL9.out, hz30, hh41.add (Nat.le_of_lt (Nat.lt_of_succ_lt hz30)) hn42⟩
                          exact AllReadyH.nil
                        exact AllReadyH.nil
                      exact AllReadyH.nil
                    exact AllReadyH.nil
                  case rest =>
                    clear HSH HL3 HL4 HL5 HL6 HL7 HL8 HL9
                    obtain ⟨b3, b4, b5, b6, b7, b8, b9, b10, rfl, rfl, rfl, rfl, rfl, rfl, rfl, rfl, rfl, rfl, hl3, hl4, hl5, hl6, hl7, hl8, hl9, hl10, hS⟩ := hcut
                    have HSH := Lib.hid hS
                    have HL3 := Lib.hid hl3
                    have HL4 := Lib.hid hl4
                    have HL5 := Lib.hid hl5
                    have HL6 := Lib.hid hl6
                    have HL7 := Lib.hid hl7
                    have HL8 := Lib.hid hl8
                    have HL9 := Lib.hid hl9
                    have HL10 := Lib.hid hl10
                    clear hS hl3 hl4 hl5 hl6 hl7 hl8 hl9 hl10
                    go_upto_region 9 with fail
                    go_cut [1, 2, 3, 4, 5, 6, 7, 8, 9, 10, 11] (fun s1 s2 s3 s4 s5 s6 s7 s8 s9 s10 s11 wx => ∃ b3 b4 b5 b6 b7 b8 b9 b10 b11 : Nat, s1 = .pointer (some ⟨w.heap.size, 0, none⟩) ∧ s2 = .pointer (some ⟨w.heap.size + 1, 0, none⟩) ∧ s3 = .pointer (some ⟨b3, 0, none⟩) ∧ s4 = .pointer (some ⟨b4, 0, none⟩) ∧ s5 = .pointer (some ⟨b5, 0, none⟩) ∧ s6 = .pointer (some ⟨b6, 0, none⟩) ∧ s7 = .pointer (some ⟨b7, 0, none⟩) ∧ s8 = .pointer (some ⟨b8, 0, none⟩) ∧ s9 = .pointer (some ⟨b9, 0, none⟩) ∧ s10 = .pointer (some ⟨b10, 0, none⟩) ∧ s11 = .pointer (some ⟨b11, 0, none⟩) ∧ w.heap.size + 1 < b3 ∧ w.heap.size + 1 < b4 ∧ w.heap.size + 1 < b5 ∧ w.heap.size + 1 < b6 ∧ w.heap.size + 1 < b7 ∧ w.heap.size + 1 < b8 ∧ w.heap.size + 1 < b9 ∧ w.heap.size + 1 < b10 ∧ w.heap.size + 1 < b11 ∧ HS w [(b11, lim x100), (b10, lim x50), (b9, lim x40), (b8, lim x20), (b7, lim x10), (b6, lim x5), (b5, lim x11), (b4, lim x9), (b3, lim x2), (w.heap.size, lim v)] [w.heap.size + 1] wx)
                    case first =>
                      refine wp_region_held_drew (S := HS w [(b10, lim x50), (b9, lim x40), (b8, lim x20), (b7, lim x10), (b6, lim x5), (b5, lim x11), (b4, lim x9), (b3, lim x2), (w.heap.size, lim v)] [w.heap.size + 1]) (by kernel_rfl) HSH.out.drew (fun hst => ?_)
                      refine wpAnyH_take (i := 0) (oi := opinvert36) (v := .agg (Ls (lim x50))) rfl (by kernel_rfl) (by kernel_rfl) (by kernel_rfl) (fun _ _ _ h => h) (yload (by rfl) _ rfl b10 (lim x50) rfl (by simp) rfl) hst ?_
                      unfold opinvert36; simp only [Act.put, List.setIfInBounds_toArray, List.set_cons_zero, List.set_cons_succ]
                      refine wpAnyH_take (i := 2) (oi := opinvert37) (v := .agg (Ls (lim x50))) rfl (by kernel_rfl) (by kernel_rfl) (by kernel_rfl) (fun _ _ _ h => h) (yload (by rfl) _ rfl b10 (lim x50) rfl (by simp) rfl) hst ?_
                      unfold opinvert37; simp only [Act.put, List.setIfInBounds_toArray, List.set_cons_zero, List.set_cons_succ]
                      refine wpAnyH_ready (rs := [1, 4]) (by kernel_rfl) (by simp) ?_
                      refine AllReadyH.cons (o := opinvert38) rfl (fun K hK => ?_) ?_
                      · unfold opinvert38
                        go_simp
                        refine (C_x100.out _).mono ?_
                        rintro e ww3 ⟨rfl, hb2⟩
                        refine hK.out _ _ (hst.call hb2) (fun hh1 => ?_)
                        clear hK K
                        refine wpAnyH_ready (rs := [3, 4]) (by kernel_rfl) (by simp) ?_
                        refine AllReadyH.cons (o := opinvert39) rfl (fun K hK => ?_) ?_
                        · unfold opinvert39
                          go_simp
                          refine (D_x100.out _).mono ?_
                          rintro e ww6 ⟨rfl, hb5⟩
                          refine hK.out _ _ (hh1.call hb5) (fun hh4 => ?_)
                          clear hK K
                          refine wpAnyH_ready (rs := [4]) (by kernel_rfl) (by simp) ?_
                          refine AllReadyH.cons (o := opinvert40) rfl (fun K hK => ?_) ?_
                          · unfold opinvert40
                            go_simp
                            have hf9 := hh4.fresh
                            have hz11 := hh4.slotlt _ (List.mem_cons_self ..)
                            have hn8 := hh4.new
                            refine hK.out _ _ (hh4.alloc _) (fun hh7 => ?_)
                            clear hK K
                            refine wpAnyH_ready (rs := [5]) (by kernel_rfl) (by simp) ?_
                            refine AllReadyH.cons (o := opinvert41) rfl (fun K hK => ?_) ?_
                            · unfold opinvert41
                              refine step_store27 rfl _ _ rfl _ (lim x100) [0, 0, 0, 0] rfl rfl hn8 rfl rfl ?_
                              refine hK.out _ _ (hh7.row _ (by omega) hf9 _ rfl hn8) (fun hh12 => ?_)
                              have hn13 := ls_row (cs := Ls (lim x100)) hn8
                              clear hK K
                              refine wpAnyH_done (by kernel_rfl) ?_ _
                              go_wp2_with fail
                              go_meet
                              exact ⟨b3, b4, b5, b6, b7, b8, b9, b10, _, rfl, rfl, rfl, rfl, rfl, rfl, rfl, rfl, rfl, rfl, rfl, HL3.out, HL4.out, HL5.out, HL6.out, HL7.out, HL8.out, HL9.out, HL10.out, hz11, hh12.add (Nat.le_of_lt (Nat.lt_of_succ_lt hz11)) hn13⟩
                            exact AllReadyH.nil
                          exact AllReadyH.nil
                        refine AllReadyH.cons (o := opinvert40) rfl (fun K hK => ?_) ?_
                        · unfold opinvert40
                          go_simp
                          have hf16 := hh1.fresh
                          have hz18 := hh1.slotlt _ (List.mem_cons_self ..)
                          have hn15 := hh1.new
                          refine hK.out _ _ (hh1.alloc _) (fun hh14 => ?_)
                          clear hK K
                          refine wpAnyH_ready (rs := [3]) (by kernel_rfl) (by simp) ?_
                          refine AllReadyH.cons (o := opinvert39) rfl (fun K hK => ?_) ?_
                          · unfold opinvert39
                            go_simp
                            refine (D_x100.out _).mono ?_
                            rintro e ww21 ⟨rfl, hb20⟩
                            refine hK.out _ _ (hh14.call hb20) (fun hh19 => ?_)
                            have hn22 := (hb20.block _ (blk_lt hn15)).trans hn15
                            clear hK K
                            refine wpAnyH_ready (rs := [5]) (by kernel_rfl) (by simp) ?_
                            refine AllReadyH.cons (o := opinvert41) rfl (fun K hK => ?_) ?_
                            · unfold opinvert41
                              refine step_store27 rfl _ _ rfl _ (lim x100) [0, 0, 0, 0] rfl rfl hn22 rfl rfl ?_
                              refine hK.out _ _ (hh19.row _ (by omega) hf16 _ rfl hn22) (fun hh24 => ?_)
                              have hn25 := ls_row (cs := Ls (lim x100)) hn22
                              clear hK K
                              refine wpAnyH_done (by kernel_rfl) ?_ _
                              go_wp2_with fail
                              go_meet
                              exact ⟨b3, b4, b5, b6, b7, b8, b9, b10, _, rfl, rfl, rfl, rfl, rfl, rfl, rfl, rfl, rfl, rfl, rfl, HL3.out, HL4.out, HL5.out, HL6.out, HL7.out, HL8.out, HL9.out, HL10.out, hz18, hh24.add (Nat.le_of_lt (Nat.lt_of_succ_lt hz18)) hn25⟩
                            exact AllReadyH.nil
                          exact AllReadyH.nil
                        exact AllReadyH.nil
                      refine AllReadyH.cons (o := opinvert40) rfl (fun K hK => ?_) ?_
                      · unfold opinvert40
                        go_simp
                        have hf28 := hst.fresh
                        have hz30 := hst.slotlt _ (List.mem_cons_self ..)
                        have hn27 := hst.new
                        refine hK.out _ _ (hst.alloc _) (fun hh26 => ?_)
                        clear hK K
                        refine wpAnyH_ready (rs := [1]) (by kernel_rfl) (by simp) ?_
                        refine AllReadyH.cons (o := opinvert38) rfl (fun K hK => ?_) ?_
                        · unfold opinvert38
                          go_simp
                          refine (C_x100.out _).mono ?_
                          rintro e ww33 ⟨rfl, hb32⟩
                          refine hK.out _ _ (hh26.call hb32) (fun hh31 => ?_)
                          have hn34 := (hb32.block _ (blk_lt hn27)).trans hn27
                          clear hK K
                          refine wpAnyH_ready (rs := [3]) (by kernel_rfl) (by simp) ?_
                          refine AllReadyH.cons (o := opinvert39) rfl (fun K hK => ?_) ?_
                          · unfold opinvert39
                            go_simp
                            refine (D_x100.out _).mono ?_
                            rintro e ww38 ⟨rfl, hb37⟩
                            refine hK.out _ _ (hh31.call hb37) (fun hh36 => ?_)
                            have hn39 := (hb37.block _ (blk_lt hn34)).trans hn34
                            clear hK K
                            refine wpAnyH_ready (rs := [5]) (by kernel_rfl) (by simp) ?_
                            refine AllReadyH.cons (o := opinvert41) rfl (fun K hK => ?_) ?_
                            · unfold opinvert41
                              refine step_store27 rfl _ _ rfl _ (lim x100) [0, 0, 0, 0] rfl rfl hn39 rfl rfl ?_
                              refine hK.out _ _ (hh36.row _ (by omega) hf28 _ rfl hn39) (fun hh41 => ?_)
                              have hn42 := ls_row (cs := Ls (lim x100)) hn39
                              clear hK K
                              refine wpAnyH_done (by kernel_rfl) ?_ _
                              go_wp2_with fail
                              go_meet
                              exact ⟨b3, b4, b5, b6, b7, b8, b9, b10, _, rfl, rfl, rfl, rfl, rfl, rfl, rfl, rfl, rfl, rfl, rfl, HL3.out, HL4.out, HL5.out, HL6.out, HL7.out, HL8.out, HL9.out, HL10.out, hz30, hh41.add (Nat.le_of_lt (Nat.lt_of_succ_lt hz30)) hn42⟩
                            exact AllReadyH.nil
                          exact AllReadyH.nil
                        exact AllReadyH.nil
                      exact AllReadyH.nil
                    case rest =>
                      clear HSH HL3 HL4 HL5 HL6 HL7 HL8 HL9 HL10
                      obtain ⟨b3, b4, b5, b6, b7, b8, b9, b10, b11, rfl, rfl, rfl, rfl, rfl, rfl, rfl, rfl, rfl, rfl, rfl, hl3, hl4, hl5, hl6, hl7, hl8, hl9, hl10, hl11, hS⟩ := hcut
                      have HSH := Lib.hid hS
                      have HL3 := Lib.hid hl3
                      have HL4 := Lib.hid hl4
                      have HL5 := Lib.hid hl5
                      have HL6 := Lib.hid hl6
                      have HL7 := Lib.hid hl7
                      have HL8 := Lib.hid hl8
                      have HL9 := Lib.hid hl9
                      have HL10 := Lib.hid hl10
                      have HL11 := Lib.hid hl11
                      clear hS hl3 hl4 hl5 hl6 hl7 hl8 hl9 hl10 hl11
                      go_upto_region 10 with fail
                      go_cut [1, 2, 3, 4, 5, 6, 7, 8, 9, 10, 11, 12] (fun s1 s2 s3 s4 s5 s6 s7 s8 s9 s10 s11 s12 wx => ∃ b3 b4 b5 b6 b7 b8 b9 b10 b11 b12 : Nat, s1 = .pointer (some ⟨w.heap.size, 0, none⟩) ∧ s2 = .pointer (some ⟨w.heap.size + 1, 0, none⟩) ∧ s3 = .pointer (some ⟨b3, 0, none⟩) ∧ s4 = .pointer (some ⟨b4, 0, none⟩) ∧ s5 = .pointer (some ⟨b5, 0, none⟩) ∧ s6 = .pointer (some ⟨b6, 0, none⟩) ∧ s7 = .pointer (some ⟨b7, 0, none⟩) ∧ s8 = .pointer (some ⟨b8, 0, none⟩) ∧ s9 = .pointer (some ⟨b9, 0, none⟩) ∧ s10 = .pointer (some ⟨b10, 0, none⟩) ∧ s11 = .pointer (some ⟨b11, 0, none⟩) ∧ s12 = .pointer (some ⟨b12, 0, none⟩) ∧ w.heap.size + 1 < b3 ∧ w.heap.size + 1 < b4 ∧ w.heap.size + 1 < b5 ∧ w.heap.size + 1 < b6 ∧ w.heap.size + 1 < b7 ∧ w.heap.size + 1 < b8 ∧ w.heap.size + 1 < b9 ∧ w.heap.size + 1 < b10 ∧ w.heap.size + 1 < b11 ∧ w.heap.size + 1 < b12 ∧ HS w [(b12, lim x200), (b11, lim x100), (b10, lim x50), (b9, lim x40), (b8, lim x20), (b7, lim x10), (b6, lim x5), (b5, lim x11), (b4, lim x9), (b3, lim x2), (w.heap.size, lim v)] [w.heap.size + 1] wx)
                      case first =>
                        refine wp_region_held_drew (S := HS w [(b11, lim x100), (b10, lim x50), (b9, lim x40), (b8, lim x20), (b7, lim x10), (b6, lim x5), (b5, lim x11), (b4, lim x9), (b3, lim x2), (w.heap.size, lim v)] [w.heap.size + 1]) (by kernel_rfl) HSH.out.drew (fun hst => ?_)
                        refine wpAnyH_take (i := 0) (oi := opinvert42) (v := .agg (Ls (lim x100))) rfl (by kernel_rfl) (by kernel_rfl) (by kernel_rfl) (fun _ _ _ h => h) (yload (by rfl) _ rfl b11 (lim x100) rfl (by simp) rfl) hst ?_
                        unfold opinvert42; simp only [Act.put, List.setIfInBounds_toArray, List.set_cons_zero, List.set_cons_succ]
                        refine wpAnyH_take (i := 2) (oi := opinvert43) (v := .agg (Ls (lim x100))) rfl (by kernel_rfl) (by kernel_rfl) (by kernel_rfl) (fun _ _ _ h => h) (yload (by rfl) _ rfl b11 (lim x100) rfl (by simp) rfl) hst ?_
                        unfold opinvert43; simp only [Act.put, List.setIfInBounds_toArray, List.set_cons_zero, List.set_cons_succ]
                        refine wpAnyH_ready (rs := [1, 4]) (by kernel_rfl) (by simp) ?_
                        refine AllReadyH.cons (o := opinvert44) rfl (fun K hK => ?_) ?_
                        · unfold opinvert44
                          go_simp
                          refine (C_x200.out _).mono ?_
                          rintro e ww3 ⟨rfl, hb2⟩
                          refine hK.out _ _ (hst.call hb2) (fun hh1 => ?_)
                          clear hK K
                          refine wpAnyH_ready (rs := [3, 4]) (by kernel_rfl) (by simp) ?_
                          refine AllReadyH.cons (o := opinvert45) rfl (fun K hK => ?_) ?_
                          · unfold opinvert45
                            go_simp
                            refine (D_x200.out _).mono ?_
                            rintro e ww6 ⟨rfl, hb5⟩
                            refine hK.out _ _ (hh1.call hb5) (fun hh4 => ?_)
                            clear hK K
                            refine wpAnyH_ready (rs := [4]) (by kernel_rfl) (by simp) ?_
                            refine AllReadyH.cons (o := opinvert46) rfl (fun K hK => ?_) ?_
                            · unfold opinvert46
                              go_simp
                              have hf9 := hh4.fresh
                              have hz11 := hh4.slotlt _ (List.mem_cons_self ..)
                              have hn8 := hh4.new
                              refine hK.out _ _ (hh4.alloc _) (fun hh7 => ?_)
                              clear hK K
                              refine wpAnyH_ready (rs := [5]) (by kernel_rfl) (by simp) ?_
                              refine AllReadyH.cons (o := opinvert47) rfl (fun K hK => ?_) ?_
                              · unfold opinvert47
                                refine step_store27 rfl _ _ rfl _ (lim x200) [0, 0, 0, 0] rfl rfl hn8 rfl rfl ?_
                                refine hK.out _ _ (hh7.row _ (by omega) hf9 _ rfl hn8) (fun hh12 => ?_)
                                have hn13 := ls_row (cs := Ls (lim x200)) hn8
                                clear hK K
                                refine wpAnyH_done (by kernel_rfl) ?_ _
                                go_wp2_with fail
                                go_meet
                                exact ⟨b3, b4, b5, b6, b7, b8, b9, b10, b11, _, rfl, rfl, rfl, rfl, rfl, rfl, rfl, rfl, rfl, rfl, rfl, rfl, HL3.out, HL4.out, HL5.out, HL6.out, HL7.out, HL8.out, HL9.out, HL10.out, HL11.out, hz11, hh12.add (Nat.le_of_lt (Nat.lt_of_succ_lt hz11)) hn13⟩
                              exact AllReadyH.nil
                            exact AllReadyH.nil
                          refine AllReadyH.cons (o := opinvert46) rfl (fun K hK => ?_) ?_
                          · unfold opinvert46
                            go_simp
                            have hf16 := hh1.fresh
                            have hz18 := hh1.slotlt _ (List.mem_cons_self ..)
                            have hn15 := hh1.new
                            refine hK.out _ _ (hh1.alloc _) (fun hh14 => ?_)
                            clear hK K
                            refine wpAnyH_ready (rs := [3]) (by kernel_rfl) (by simp) ?_
                            refine AllReadyH.cons (o := opinvert45) rfl (fun K hK => ?_) ?_
                            · unfold opinvert45
                              go_simp
                              refine (D_x200.out _).mono ?_
                              rintro e ww21 ⟨rfl, hb20⟩
                              refine hK.out _ _ (hh14.call hb20) (fun hh19 => ?_)
                              have hn22 := (hb20.block _ (blk_lt hn15)).trans hn15
                              clear hK K
                              refine wpAnyH_ready (rs := [5]) (by kernel_rfl) (by simp) ?_
                              refine AllReadyH.cons (o := opinvert47) rfl (fun K hK => ?_) ?_
                              · unfold opinvert47
                                refine step_store27 rfl _ _ rfl _ (lim x200) [0, 0, 0, 0] rfl rfl hn22 rfl rfl ?_
                                refine hK.out _ _ (hh19.row _ (by omega) hf16 _ rfl hn22) (fun hh24 => ?_)
                                have hn25 := ls_row (cs := Ls (lim x200)) hn22
                                clear hK K
                                refine wpAnyH_done (by kernel_rfl) ?_ _
                                go_wp2_with fail
                                go_meet
                                exact ⟨b3, b4, b5, b6, b7, b8, b9, b10, b11, _, rfl, rfl, rfl, rfl, rfl, rfl, rfl, rfl, rfl, rfl, rfl, rfl, HL3.out, HL4.out, HL5.out, HL6.out, HL7.out, HL8.out, HL9.out, HL10.out, HL11.out, hz18, hh24.add (Nat.le_of_lt (Nat.lt_of_succ_lt hz18)) hn25⟩
                              exact AllReadyH.nil
                            exact AllReadyH.nil
                          exact AllReadyH.nil
                        refine AllReadyH.cons (o := opinvert46) rfl (fun K hK => ?_) ?_
                        · unfold opinvert46
                          go_simp
                          have hf28 := hst.fresh
                          have hz30 := hst.slotlt _ (List.mem_cons_self ..)
                          have hn27 := hst.new
                          refine hK.out _ _ (hst.alloc _) (fun hh26 => ?_)
                          clear hK K
                          refine wpAnyH_ready (rs := [1]) (by kernel_rfl) (by simp) ?_
                          refine AllReadyH.cons (o := opinvert44) rfl (fun K hK => ?_) ?_
                          · unfold opinvert44
                            go_simp
                            refine (C_x200.out _).mono ?_
                            rintro e ww33 ⟨rfl, hb32⟩
                            refine hK.out _ _ (hh26.call hb32) (fun hh31 => ?_)
                            have hn34 := (hb32.block _ (blk_lt hn27)).trans hn27
                            clear hK K
                            refine wpAnyH_ready (rs := [3]) (by kernel_rfl) (by simp) ?_
                            refine AllReadyH.cons (o := opinvert45) rfl (fun K hK => ?_) ?_
                            · unfold opinvert45
                              go_simp
                              refine (D_x200.out _).mono ?_
                              rintro e ww38 ⟨rfl, hb37⟩
                              refine hK.out _ _ (hh31.call hb37) (fun hh36 => ?_)
                              have hn39 := (hb37.block _ (blk_lt hn34)).trans hn34
                              clear hK K
                              refine wpAnyH_ready (rs := [5]) (by kernel_rfl) (by simp) ?_
                              refine AllReadyH.cons (o := opinvert47) rfl (fun K hK => ?_) ?_
                              · unfold opinvert47
                                refine step_store27 rfl _ _ rfl _ (lim x200) [0, 0, 0, 0] rfl rfl hn39 rfl rfl ?_
                                refine hK.out _ _ (hh36.row _ (by omega) hf28 _ rfl hn39) (fun hh41 => ?_)
                                have hn42 := ls_row (cs := Ls (lim x200)) hn39
                                clear hK K
                                refine wpAnyH_done (by kernel_rfl) ?_ _
                                go_wp2_with fail
                                go_meet
                                exact ⟨b3, b4, b5, b6, b7, b8, b9, b10, b11, _, rfl, rfl, rfl, rfl, rfl, rfl, rfl, rfl, rfl, rfl, rfl, rfl, HL3.out, HL4.out, HL5.out, HL6.out, HL7.out, HL8.out, HL9.out, HL10.out, HL11.out, hz30, hh41.add (Nat.le_of_lt (Nat.lt_of_succ_lt hz30)) hn42⟩
                              exact AllReadyH.nil
                            exact AllReadyH.nil
                          exact AllReadyH.nil
                        exact AllReadyH.nil
                      case rest =>
                        clear HSH HL3 HL4 HL5 HL6 HL7 HL8 HL9 HL10 HL11
                        obtain ⟨b3, b4, b5, b6, b7, b8, b9, b10, b11, b12, rfl, rfl, rfl, rfl, rfl, rfl, rfl, rfl, rfl, rfl, rfl, rfl, hl3, hl4, hl5, hl6, hl7, hl8, hl9, hl10, hl11, hl12, hS⟩ := hcut
                        have HSH := Lib.hid hS
                        have HL3 := Lib.hid hl3
                        have HL4 := Lib.hid hl4
                        have HL5 := Lib.hid hl5
                        have HL6 := Lib.hid hl6
                        have HL7 := Lib.hid hl7
                        have HL8 := Lib.hid hl8
                        have HL9 := Lib.hid hl9
                        have HL10 := Lib.hid hl10
                        have HL11 := Lib.hid hl11
                        have HL12 := Lib.hid hl12
                        clear hS hl3 hl4 hl5 hl6 hl7 hl8 hl9 hl10 hl11 hl12
                        go_upto_region 11 with fail
                        go_cut [1, 2, 3, 4, 5, 6, 7, 8, 9, 10, 11, 12, 13] (fun s1 s2 s3 s4 s5 s6 s7 s8 s9 s10 s11 s12 s13 wx => ∃ b3 b4 b5 b6 b7 b8 b9 b10 b11 b12 b13 : Nat, s1 = .pointer (some ⟨w.heap.size, 0, none⟩) ∧ s2 = .pointer (some ⟨w.heap.size + 1, 0, none⟩) ∧ s3 = .pointer (some ⟨b3, 0, none⟩) ∧ s4 = .pointer (some ⟨b4, 0, none⟩) ∧ s5 = .pointer (some ⟨b5, 0, none⟩) ∧ s6 = .pointer (some ⟨b6, 0, none⟩) ∧ s7 = .pointer (some ⟨b7, 0, none⟩) ∧ s8 = .pointer (some ⟨b8, 0, none⟩) ∧ s9 = .pointer (some ⟨b9, 0, none⟩) ∧ s10 = .pointer (some ⟨b10, 0, none⟩) ∧ s11 = .pointer (some ⟨b11, 0, none⟩) ∧ s12 = .pointer (some ⟨b12, 0, none⟩) ∧ s13 = .pointer (some ⟨b13, 0, none⟩) ∧ w.heap.size + 1 < b3 ∧ w.heap.size + 1 < b4 ∧ w.heap.size + 1 < b5 ∧ w.heap.size + 1 < b6 ∧ w.heap.size + 1 < b7 ∧ w.heap.size + 1 < b8 ∧ w.heap.size + 1 < b9 ∧ w.heap.size + 1 < b10 ∧ w.heap.size + 1 < b11 ∧ w.heap.size + 1 < b12 ∧ w.heap.size + 1 < b13 ∧ HS w [(b13, lim x250), (b12, lim x200), (b11, lim x100), (b10, lim x50), (b9, lim x40), (b8, lim x20), (b7, lim x10), (b6, lim x5), (b5, lim x11), (b4, lim x9), (b3, lim x2), (w.heap.size, lim v)] [w.heap.size + 1] wx)
                        case first =>
                          refine wp_region_held_drew (S := HS w [(b12, lim x200), (b11, lim x100), (b10, lim x50), (b9, lim x40), (b8, lim x20), (b7, lim x10), (b6, lim x5), (b5, lim x11), (b4, lim x9), (b3, lim x2), (w.heap.size, lim v)] [w.heap.size + 1]) (by kernel_rfl) HSH.out.drew (fun hst => ?_)
                          refine wpAnyH_take (i := 0) (oi := opinvert48) (v := .agg (Ls (lim x200))) rfl (by kernel_rfl) (by kernel_rfl) (by kernel_rfl) (fun _ _ _ h => h) (yload (by rfl) _ rfl b12 (lim x200) rfl (by simp) rfl) hst ?_
                          unfold opinvert48; simp only [Act.put, List.setIfInBounds_toArray, List.set_cons_zero, List.set_cons_succ]
                          refine wpAnyH_take (i := 2) (oi := opinvert49) (v := .agg (Ls (lim x50))) rfl (by kernel_rfl) (by kernel_rfl) (by kernel_rfl) (fun _ _ _ h => h) (yload (by rfl) _ rfl b10 (lim x50) rfl (by simp) rfl) hst ?_
                          unfold opinvert49; simp only [Act.put, List.setIfInBounds_toArray, List.set_cons_zero, List.set_cons_succ]
                          refine wpAnyH_ready (rs := [1, 4]) (by kernel_rfl) (by simp) ?_
                          refine AllReadyH.cons (o := opinvert50) rfl (fun K hK => ?_) ?_
                          · unfold opinvert50
                            go_simp
                            refine (C_x250.out _).mono ?_
                            rintro e ww3 ⟨rfl, hb2⟩
                            refine hK.out _ _ (hst.call hb2) (fun hh1 => ?_)
                            clear hK K
                            refine wpAnyH_ready (rs := [3, 4]) (by kernel_rfl) (by simp) ?_
                            refine AllReadyH.cons (o := opinvert51) rfl (fun K hK => ?_) ?_
                            · unfold opinvert51
                              go_simp
                              refine (D_x250.out _).mono ?_
                              rintro e ww6 ⟨rfl, hb5⟩
                              refine hK.out _ _ (hh1.call hb5) (fun hh4 => ?_)
                              clear hK K
                              refine wpAnyH_ready (rs := [4]) (by kernel_rfl) (by simp) ?_
                              refine AllReadyH.cons (o := opinvert52) rfl (fun K hK => ?_) ?_
                              · unfold opinvert52
                                go_simp
                                have hf9 := hh4.fresh
                                have hz11 := hh4.slotlt _ (List.mem_cons_self ..)
                                have hn8 := hh4.new
                                refine hK.out _ _ (hh4.alloc _) (fun hh7 => ?_)
                                clear hK K
                                refine wpAnyH_ready (rs := [5]) (by kernel_rfl) (by simp) ?_
                                refine AllReadyH.cons (o := opinvert53) rfl (fun K hK => ?_) ?_
                                · unfold opinvert53
                                  refine step_store27 rfl _ _ rfl _ (lim x250) [0, 0, 0, 0] rfl rfl hn8 rfl rfl ?_
                                  refine hK.out _ _ (hh7.row _ (by omega) hf9 _ rfl hn8) (fun hh12 => ?_)
                                  have hn13 := ls_row (cs := Ls (lim x250)) hn8
                                  clear hK K
                                  refine wpAnyH_done (by kernel_rfl) ?_ _
                                  go_wp2_with fail
                                  go_meet
                                  exact ⟨b3, b4, b5, b6, b7, b8, b9, b10, b11, b12, _, rfl, rfl, rfl, rfl, rfl, rfl, rfl, rfl, rfl, rfl, rfl, rfl, rfl, HL3.out, HL4.out, HL5.out, HL6.out, HL7.out, HL8.out, HL9.out, HL10.out, HL11.out, HL12.out, hz11, hh12.add (Nat.le_of_lt (Nat.lt_of_succ_lt hz11)) hn13⟩
                                exact AllReadyH.nil
                              exact AllReadyH.nil
                            refine AllReadyH.cons (o := opinvert52) rfl (fun K hK => ?_) ?_
                            · unfold opinvert52
                              go_simp
                              have hf16 := hh1.fresh
                              have hz18 := hh1.slotlt _ (List.mem_cons_self ..)
                              have hn15 := hh1.new
                              refine hK.out _ _ (hh1.alloc _) (fun hh14 => ?_)
                              clear hK K
                              refine wpAnyH_ready (rs := [3]) (by kernel_rfl) (by simp) ?_
                              refine AllReadyH.cons (o := opinvert51) rfl (fun K hK => ?_) ?_
                              · unfold opinvert51
                                go_simp
                                refine (D_x250.out _).mono ?_
                                rintro e ww21 ⟨rfl, hb20⟩
                                refine hK.out _ _ (hh14.call hb20) (fun hh19 => ?_)
                                have hn22 := (hb20.block _ (blk_lt hn15)).trans hn15
                                clear hK K
                                refine wpAnyH_ready (rs := [5]) (by kernel_rfl) (by simp) ?_
                                refine AllReadyH.cons (o := opinvert53) rfl (fun K hK => ?_) ?_
                                · unfold opinvert53
                                  refine step_store27 rfl _ _ rfl _ (lim x250) [0, 0, 0, 0] rfl rfl hn22 rfl rfl ?_
                                  refine hK.out _ _ (hh19.row _ (by omega) hf16 _ rfl hn22) (fun hh24 => ?_)
                                  have hn25 := ls_row (cs := Ls (lim x250)) hn22
                                  clear hK K
                                  refine wpAnyH_done (by kernel_rfl) ?_ _
                                  go_wp2_with fail
                                  go_meet
                                  exact ⟨b3, b4, b5, b6, b7, b8, b9, b10, b11, b12, _, rfl, rfl, rfl, rfl, rfl, rfl, rfl, rfl, rfl, rfl, rfl, rfl, rfl, HL3.out, HL4.out, HL5.out, HL6.out, HL7.out, HL8.out, HL9.out, HL10.out, HL11.out, HL12.out, hz18, hh24.add (Nat.le_of_lt (Nat.lt_of_succ_lt hz18)) hn25⟩
                                exact AllReadyH.nil
                              exact AllReadyH.nil
                            exact AllReadyH.nil
                          refine AllReadyH.cons (o := opinvert52) rfl (fun K hK => ?_) ?_
                          · unfold opinvert52
                            go_simp
                            have hf28 := hst.fresh
                            have hz30 := hst.slotlt _ (List.mem_cons_self ..)
                            have hn27 := hst.new
                            refine hK.out _ _ (hst.alloc _) (fun hh26 => ?_)
                            clear hK K
                            refine wpAnyH_ready (rs := [1]) (by kernel_rfl) (by simp) ?_
                            refine AllReadyH.cons (o := opinvert50) rfl (fun K hK => ?_) ?_
                            · unfold opinvert50
                              go_simp
                              refine (C_x250.out _).mono ?_
                              rintro e ww33 ⟨rfl, hb32⟩
                              refine hK.out _ _ (hh26.call hb32) (fun hh31 => ?_)
                              have hn34 := (hb32.block _ (blk_lt hn27)).trans hn27
                              clear hK K
                              refine wpAnyH_ready (rs := [3]) (by kernel_rfl) (by simp) ?_
                              refine AllReadyH.cons (o := opinvert51) rfl (fun K hK => ?_) ?_
                              · unfold opinvert51
                                go_simp
                                refine (D_x250.out _).mono ?_
                                rintro e ww38 ⟨rfl, hb37⟩
                                refine hK.out _ _ (hh31.call hb37) (fun hh36 => ?_)
                                have hn39 := (hb37.block _ (blk_lt hn34)).trans hn34
                                clear hK K
                                refine wpAnyH_ready (rs := [5]) (by kernel_rfl) (by simp) ?_
                                refine AllReadyH.cons (o := opinvert53) rfl (fun K hK => ?_) ?_
                                · unfold opinvert53
                                  refine step_store27 rfl _ _ rfl _ (lim x250) [0, 0, 0, 0] rfl rfl hn39 rfl rfl ?_
                                  refine hK.out _ _ (hh36.row _ (by omega) hf28 _ rfl hn39) (fun hh41 => ?_)
                                  have hn42 := ls_row (cs := Ls (lim x250)) hn39
                                  clear hK K
                                  refine wpAnyH_done (by kernel_rfl) ?_ _
                                  go_wp2_with fail
                                  go_meet
                                  exact ⟨b3, b4, b5, b6, b7, b8, b9, b10, b11, b12, _, rfl, rfl, rfl, rfl, rfl, rfl, rfl, rfl, rfl, rfl, rfl, rfl, rfl, HL3.out, HL4.out, HL5.out, HL6.out, HL7.out, HL8.out, HL9.out, HL10.out, HL11.out, HL12.out, hz30, hh41.add (Nat.le_of_lt (Nat.lt_of_succ_lt hz30)) hn42⟩
                                exact AllReadyH.nil
                              exact AllReadyH.nil
                            exact AllReadyH.nil
                          exact AllReadyH.nil
                        case rest =>
                          clear HSH HL3 HL4 HL5 HL6 HL7 HL8 HL9 HL10 HL11 HL12
                          obtain ⟨b3, b4, b5, b6, b7, b8, b9, b10, b11, b12, b13, rfl, rfl, rfl, rfl, rfl, rfl, rfl, rfl, rfl, rfl, rfl, rfl, rfl, hl3, hl4, hl5, hl6, hl7, hl8, hl9, hl10, hl11, hl12, hl13, hS⟩ := hcut
                          have HSH := Lib.hid hS
                          have HL3 := Lib.hid hl3
                          have HL4 := Lib.hid hl4
                          have HL5 := Lib.hid hl5
                          have HL6 := Lib.hid hl6
                          have HL7 := Lib.hid hl7
                          have HL8 := Lib.hid hl8
                          have HL9 := Lib.hid hl9
                          have HL10 := Lib.hid hl10
                          have HL11 := Lib.hid hl11
                          have HL12 := Lib.hid hl12
                          have HL13 := Lib.hid hl13
                          clear hS hl3 hl4 hl5 hl6 hl7 hl8 hl9 hl10 hl11 hl12 hl13
                          have HS2 : Hid (HS w [(b13, lim x250), (b5, lim x11)] [w.heap.size + 1] _) := Lib.hid (HSH.out.weaken (fun x hx => by simp only [List.mem_cons, List.not_mem_nil, or_false] at hx; rcases hx with rfl | rfl <;> simp only [List.mem_cons, true_or, or_true]) (fun g hg => hg))
                          have HA := HL13.out
                          have HB := HL5.out
                          go_upto_region 12 with fail
                          go_cut [] (fun wx => wx.heap[w.heap.size + 1]? = some (.cells (Ls (lim xr)) 27 (0, 0)) ∧ Below w.heap.size w wx)
                          case first =>
                            refine wp_region_held_drew (S := HS w [(b13, lim x250), (b5, lim x11)] [w.heap.size + 1]) (by kernel_rfl) HS2.out.drew (fun hst => ?_)
                            refine wpAnyH_take (i := 0) (oi := opinvert54) (v := .agg (Ls (lim x250))) rfl (by kernel_rfl) (by kernel_rfl) (by kernel_rfl) (fun _ _ _ h => h) (yload (by rfl) _ rfl b13 (lim x250) rfl (by simp) rfl) hst ?_
                            unfold opinvert54; simp only [Act.put, List.setIfInBounds_toArray, List.set_cons_zero, List.set_cons_succ]
                            refine wpAnyH_take (i := 2) (oi := opinvert55) (v := .agg (Ls (lim x11))) rfl (by kernel_rfl) (by kernel_rfl) (by kernel_rfl) (fun _ _ _ h => h) (yload (by rfl) _ rfl b5 (lim x11) rfl (by simp) rfl) hst ?_
                            unfold opinvert55; simp only [Act.put, List.setIfInBounds_toArray, List.set_cons_zero, List.set_cons_succ]
                            refine wpAnyH_ready (rs := [1]) (by kernel_rfl) (by simp) ?_
                            refine AllReadyH.cons (o := opinvert56) rfl (fun K hK => ?_) ?_
                            · unfold opinvert56
                              go_simp
                              refine (C_xr.out _).mono ?_
                              rintro e ww3 ⟨rfl, hb2⟩
                              refine hK.out _ _ (hst.call hb2) (fun hh1 => ?_)
                              clear hK K
                              refine wpAnyH_ready (rs := [3]) (by kernel_rfl) (by simp) ?_
                              refine AllReadyH.cons (o := opinvert57) rfl (fun K hK => ?_) ?_
                              · unfold opinvert57
                                go_simp
                                refine (D_xr.out _).mono ?_
                                rintro e ww6 ⟨rfl, hb5⟩
                                refine hK.out _ _ (hh1.call hb5) (fun hh4 => ?_)
                                clear hK K
                                refine wpAnyH_ready (rs := [4]) (by kernel_rfl) (by simp) ?_
                                refine AllReadyH.cons (o := opinvert58) rfl (fun K hK => ?_) ?_
                                · unfold opinvert58
                                  obtain ⟨q8a, q8l, q8b, q8c⟩ := hh4.slots (w.heap.size + 1) (by simp)
                                  refine step_store27 rfl _ _ rfl (w.heap.size + 1) (lim xr) q8l rfl rfl q8c q8b rfl ?_
                                  refine hK.out _ _ (hh4.row (w.heap.size + 1) q8a (by simp; omega) _ rfl q8c) (fun hh7 => ?_)
                                  have hn9 := ls_row (cs := Ls (lim xr)) q8c
                                  clear hK K
                                  refine wpAnyH_done (by kernel_rfl) ?_ _
                                  go_wp2_with fail
                                  go_meet
                                  exact ⟨hn9, hh7.below⟩
                                exact AllReadyH.nil
                              exact AllReadyH.nil
                            exact AllReadyH.nil
                          case rest =>
                            obtain ⟨hf, hB⟩ := hcut
                            go_wp2_with fail
                            refine ret27 rfl (w.heap.size + 1) (lim xr) rfl hf rfl rfl ?_
                            exact ⟨(show Ending.returned (.agg (E xr)) = _ from by rw [HXR.out]), hB⟩

end Go.Proofs.Ytfklojheogidpaa
