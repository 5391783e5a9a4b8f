import Derived.Test.YtkcjgkfgjbhfnaaWawk
set_option linter.unusedVariables false
set_option linter.unusedSimpArgs false
namespace Go.Proofs.Ytkcjgkfgjbhfnaa
open Go.RowKit Go.Proofs.YtkcjgkfgjbhfnaaW.PrintWords Go.Proofs.YtkcjgkfgjbhfnaaW.PrintLast Go.Proofs.YtkcjgkfgjbhfnaaW.PrintMore
attribute [local go_sem ↓] Go.wp_at_zero Go.wp_at_succ

/-- Two packets' blocks. -/
structure S2 (W0 : World) (b4 b6 : Nat) (X Y : Array Value) (w : World) : Prop where
  below : Below W0.heap.size W0 w
  h4 : w.heap[b4]? = some (.cells X 45 (0, 0))
  h6 : w.heap[b6]? = some (.cells Y 46 (0, 0))
theorem S2.call {W0 w w' : World} {b4 b6 : Nat} {X Y : Array Value} (h : S2 W0 b4 b6 X Y w) (hb : Below w.heap.size w w') : S2 W0 b4 b6 X Y w' :=
  ⟨h.below.trans (hb.mono h.below.size), (hb.block _ (blk_lt h.h4)).trans h.h4, (hb.block _ (blk_lt h.h6)).trans h.h6⟩
theorem S2.drew {W0 w : World} {b4 b6 : Nat} {X Y : Array Value} (h : S2 W0 b4 b6 X Y w) : S2 W0 b4 b6 X Y w.drew := h.call (Below.refl _ _).drew
theorem yl45 {ops : Array Oper} {W0 : World} {b4 b6 : Nat} {X Y : Array Value} {op : Oper} {a : Act} (hw : Region.wanted op (yielded ops a.tmps) = true) (x : Operand) (ho : op.op = .load 45 x) (hx : a.eval x = .pointer (some ⟨b4, 0, none⟩)) (hi : (Try.prog.info? 45).map (·.size) = some X.size) : YieldsIf Try.prog ops (S2 W0 b4 b6 X Y) op (.agg X) a :=
  .inl ⟨hw, fun w hS => by
    unfold execOp
    simp only [ho, hx, Instr.loadAt, Instr.sureAddr, Sem.run_bind, Sem.run_pure, Result.andThen_ok, run_loadVar_row w b4 45 45 X (0, 0) _ hS.h4 Try.underlying45 rfl hi]⟩
theorem yl46 {ops : Array Oper} {W0 : World} {b4 b6 : Nat} {X Y : Array Value} {op : Oper} {a : Act} (hw : Region.wanted op (yielded ops a.tmps) = true) (x : Operand) (ho : op.op = .load 46 x) (hx : a.eval x = .pointer (some ⟨b6, 0, none⟩)) (hi : (Try.prog.info? 46).map (·.size) = some Y.size) : YieldsIf Try.prog ops (S2 W0 b4 b6 X Y) op (.agg Y) a :=
  .inl ⟨hw, fun w hS => by
    unfold execOp
    simp only [ho, hx, Instr.loadAt, Instr.sureAddr, Sem.run_bind, Sem.run_pure, Result.andThen_ok, run_loadVar_row w b6 46 46 Y (0, 0) _ hS.h6 Try.underlying46 rfl hi]⟩
theorem eq28 {ρ : Operand → Value} {dst : Option Tmp} {ty : TypeId} {pos : String} {aft : Array Edge} {x y : Operand} {w : World} {n : Int} {g : Option (Nat × Bool)} (hx : ρ x = .int .i64 n) (hy : ρ y = .int .i64 n) :
    (execOp ρ { dst := dst, op := .binOp .eql 28 x y 28, type := ty, pos := pos, after := aft, guard := g }).run Try.prog w = .ok (.value (.bool true)) w := by
  simp only [execOp, hx, hy]
  simp [eqGuard, go_sem, binOp, Op.equal, Op.equalIn, Op.maxDepth, Try.underlying28]
/-- A packet with its rows, in a block. -/
def pkc (P : Pk) (A : Option Addr) (c : Nat) (B : Option Addr) (d : Nat) : Array Value := #[.int .i64 P.k, .int .u32 P.f, .int .u32 P.t, .int .i64 P.m, .int .i64 P.p, .int .i64 P.n, .slice A P.mac.length c, .int .u64 P.c, .slice B P.body.length d]
theorem pget (A : Option Addr) (c : Nat) (l : List Int) (w : World) (h : Rd w A c l) (hl : l.length ≤ 100000) : Calls Try.prog 25 #[.slice A l.length c] w
    fun e w2 => ∃ A' c' B' d', e = .returned (.tuple #[.agg (pkc (getP l) A' c' B' d'), .int .i64 (errn l)]) ∧ OwnA w2 w.heap.size (.slice A' (getP l).mac.length c') (getP l).mac ∧ OwnA w2 w.heap.size (.slice B' (getP l).body.length d') (getP l).body ∧ Below w.heap.size w w2 := get_any A c l w h hl
theorem pmodel (P : Pk) (A : Option Addr) (c : Nat) (B : Option Addr) (d : Nat) (w : World) : Calls Try.prog 19 #[.agg (pkc P A c B d)] w fun e w' => e = .returned (.agg (pkc P A c B d)) ∧ Below w.heap.size w w' :=
  model_any P (.slice A P.mac.length c) (.slice B P.body.length d) w ⟨_, _, _, rfl⟩ ⟨_, _, _, rfl⟩
theorem isz45 (P : Pk) (A : Option Addr) (c : Nat) (B : Option Addr) (d : Nat) : (Try.prog.info? 45).map (·.size) = some (pkc P A c B d).size := by kernel_rfl
theorem isz46 (P : Pk) (A : Option Addr) (c : Nat) (B : Option Addr) (d : Nat) : (Try.prog.info? 46).map (·.size) = some (pkc P A c B d).size := by kernel_rfl
theorem pkc_one (P : Pk) (A : Option Addr) (c : Nat) (B : Option Addr) (d : Nat) : (pkc P A c B d).all (·.oneCell') = true := by simp [pkc, Value.oneCell']
section
variable {ops : Array Oper} {rest : List Oper} {o : Oper} {a : Act} {w : World} {Q : Exit → Act → World → Prop}
theorem store45 (hgd : o.guard = none) (x y : Operand) (ho : o.op = .store 45 x y) (g : Nat) (P : Pk) (A : Option Addr) (c : Nat) (B : Option Addr) (d : Nat) (hx : a.eval x = .pointer (some ⟨g, 0, none⟩)) (hy : a.eval y = .agg (pkc P A c B d)) (hg : w.heap[g]? = some (.cells z46 45 (0, 0)))
    (h : wpList Try.prog ops Q rest (a.put o.dst undef) (w.setRow g (pkc P A c B d))) : wpList Try.prog ops Q (o :: rest) a w :=
  wpList_store_row hgd 45 x y ho g (pkc P A c B d) hx hy 45 z46 hg (isz45 P A c B d) rfl (pkc_one P A c B d) h
theorem store46 (hgd : o.guard = none) (x y : Operand) (ho : o.op = .store 46 x y) (g : Nat) (P : Pk) (A : Option Addr) (c : Nat) (B : Option Addr) (d : Nat) (hx : a.eval x = .pointer (some ⟨g, 0, none⟩)) (hy : a.eval y = .agg (pkc P A c B d)) (hg : w.heap[g]? = some (.cells z46 46 (0, 0)))
    (h : wpList Try.prog ops Q rest (a.put o.dst undef) (w.setRow g (pkc P A c B d))) : wpList Try.prog ops Q (o :: rest) a w :=
  wpList_store_row hgd 46 x y ho g (pkc P A c B d) hx hy 46 z46 hg (isz46 P A c B d) rfl (pkc_one P A c B d) h
end
theorem below_setRow {B : Nat} {a w : World} (h : Below B a w) {g : Nat} (hg : B ≤ g) (cs : Array Value) : Below B a (w.setRow g cs) :=
  h.trans ⟨rfl, rfl, rfl, by simp, fun k hk => setRow_other w g k cs (by omega)⟩
theorem ls_row {w : World} {g : Nat} {t : TypeId} {old cs : Array Value} (h : w.heap[g]? = some (.cells old t (0, 0))) : (w.setRow g cs).heap[g]? = some (.cells cs t (0, 0)) := setRow_heap w g old cs t (0, 0) h
theorem new_row (w : World) (t : TypeId) (cs0 cs : Array Value) : ((w.alloc (.cells cs0 t)).setRow w.heap.size cs).heap[w.heap.size]? = some (.cells cs t (0, 0)) := ls_row (heap_alloc_new w _)
theorem new_below (w : World) (t : TypeId) (cs0 cs : Array Value) : Below w.heap.size w ((w.alloc (.cells cs0 t)).setRow w.heap.size cs) := below_setRow ((Below.refl w.heap.size w).alloc (Nat.le_refl _) _) (Nat.le_refl _) _
section
variable {ops : Array Oper} {rest : List Oper} {o : Oper} {a : Act} {w : World} {Q : Exit → Act → World → Prop}
theorem load45 (hgd : o.guard = none) (x : Operand) (ho : o.op = .load 45 x) (g : Nat) (P : Pk) (A : Option Addr) (c : Nat) (B : Option Addr) (d : Nat) (hx : a.eval x = .pointer (some ⟨g, 0, none⟩)) (hg : w.heap[g]? = some (.cells (pkc P A c B d) 45 (0, 0)))
    (h : wpList Try.prog ops Q rest (a.put o.dst (.agg (pkc P A c B d))) w) : wpList Try.prog ops Q (o :: rest) a w :=
  wpList_load_row hgd 45 x ho g hx 45 (pkc P A c B d) (0, 0) _ hg Try.underlying45 rfl (isz45 P A c B d) h
theorem load46 (hgd : o.guard = none) (x : Operand) (ho : o.op = .load 46 x) (g : Nat) (P : Pk) (A : Option Addr) (c : Nat) (B : Option Addr) (d : Nat) (hx : a.eval x = .pointer (some ⟨g, 0, none⟩)) (hg : w.heap[g]? = some (.cells (pkc P A c B d) 46 (0, 0)))
    (h : wpList Try.prog ops Q rest (a.put o.dst (.agg (pkc P A c B d))) w) : wpList Try.prog ops Q (o :: rest) a w :=
  wpList_load_row hgd 46 x ho g hx 46 (pkc P A c B d) (0, 0) _ hg Try.underlying46 rfl (isz46 P A c B d) h
end
section
variable {ops : Array Oper} {o : Oper} {a : Act} {w : World} {K : Act → World → Prop} {Q : Exit → Act → World → Prop} {X : Prop}
theorem step_conv (hw : Region.wanted o (yielded ops a.tmps) = true) (x : Operand) (ho : o.op = .convert 37 9 x) (A : Option Addr) (n c : Nat) (l : List Int) (hx : a.eval x = .slice A n c) (hC : Kd.C (Kd.int .u8) w A n l)
    (h : K (a.put o.dst (.string (strOfNums l))) w) : if Region.wanted o (yielded ops a.tmps) = true then Oper.wp Try.prog o a w K Q else X := by
  rw [if_pos hw]
  have hrun := conv_C (c := c) hC
  unfold Oper.wp
  simp [execOp, ho, hx, hrun]
  exact h
end
theorem neqS {ρ : Operand → Value} {dst : Option Tmp} {ty : TypeId} {pos : String} {aft : Array Edge} {x y : Operand} {w : World} {s : ByteArray} {g : Option (Nat × Bool)} (hx : ρ x = .string s) (hy : ρ y = .string s) :
    (execOp ρ { dst := dst, op := .binOp .neq 9 x y 9, type := ty, pos := pos, after := aft, guard := g }).run Try.prog w = .ok (.value (.bool false)) w := by
  simp only [execOp, hx, hy, binOp_string_neq]
  simp [eqGuard]
theorem eqS {ρ : Operand → Value} {dst : Option Tmp} {ty : TypeId} {pos : String} {aft : Array Edge} {x y : Operand} {w : World} {s : ByteArray} {g : Option (Nat × Bool)} (hx : ρ x = .string s) (hy : ρ y = .string s) :
    (execOp ρ { dst := dst, op := .binOp .eql 9 x y 9, type := ty, pos := pos, after := aft, guard := g }).run Try.prog w = .ok (.value (.bool true)) w := by
  simp only [execOp, hx, hy, binOp_string_eql]
  simp [eqGuard]
theorem neq28 {ρ : Operand → Value} {dst : Option Tmp} {ty : TypeId} {pos : String} {aft : Array Edge} {x y : Operand} {w : World} {n : Int} {g : Option (Nat × Bool)} (hx : ρ x = .int .i64 n) (hy : ρ y = .int .i64 n) :
    (execOp ρ { dst := dst, op := .binOp .neq 28 x y 28, type := ty, pos := pos, after := aft, guard := g }).run Try.prog w = .ok (.value (.bool false)) w := by
  simp only [execOp, hx, hy]
  simp [eqGuard, go_sem, binOp, Op.equal, Op.equalIn, Op.maxDepth, Try.underlying28]
end Go.Proofs.Ytkcjgkfgjbhfnaa
