import Derived.Test.YtfklojheogidpaaEl
import Derived.Deep.RegionHeld3
import Derived.Deep.DeepCutAuto
set_option linter.unusedVariables false
namespace Go.Proofs.Ytfklojheogidpaa
open Go.RowKit Go.Proofs.YtfklojheogidpaaW.PrintWords

/-! ### Regions that draw their order and hold arrays and calls -/
/-- The call began in W0; each block of fs holds its words; each block of gs is an array that may be written. -/
structure HS (W0 : World) (fs : List (Nat × List Int)) (gs : List Nat) (w : World) : Prop where
  below : Below W0.heap.size W0 w
  facts : ∀ x ∈ fs, W0.heap.size ≤ x.1 ∧ w.heap[x.1]? = some (.cells (Ls x.2) 27 (0, 0))
  slots : ∀ g ∈ gs, W0.heap.size ≤ g ∧ ∃ l0 : List Int, l0.length = 4 ∧ w.heap[g]? = some (.cells (Ls l0) 27 (0, 0))
theorem HS.drew {W0 : World} {fs : List (Nat × List Int)} {gs : List Nat} {w : World} (h : HS W0 fs gs w) : HS W0 fs gs w.drew := ⟨h.below.drew, h.facts, h.slots⟩
theorem HS.call {W0 : World} {fs : List (Nat × List Int)} {gs : List Nat} {w w' : World} (h : HS W0 fs gs w) (hb : Below w.heap.size w w') : HS W0 fs gs w' :=
  ⟨h.below.trans (hb.mono h.below.size), fun x hx => ⟨(h.facts x hx).1, (hb.block _ (blk_lt (h.facts x hx).2)).trans (h.facts x hx).2⟩,
   fun g hg => by
    obtain ⟨h1, l0, h2, h3⟩ := h.slots g hg
    exact ⟨h1, l0, h2, (hb.block _ (blk_lt h3)).trans h3⟩⟩
theorem HS.alloc {W0 : World} {fs : List (Nat × List Int)} {gs : List Nat} {w : World} (h : HS W0 fs gs w) (o : Obj) : HS W0 fs gs (w.alloc o) :=
  h.call (below_alloc (Below.refl _ _) o)
theorem HS.row {W0 : World} {fs : List (Nat × List Int)} {gs : List Nat} {w : World} (h : HS W0 fs gs w) (g : Nat) (hg : W0.heap.size ≤ g) (hn : ∀ x ∈ fs, x.1 ≠ g) (l : List Int) (hl : l.length = 4) {l1 : List Int} (h1 : w.heap[g]? = some (.cells (Ls l1) 27 (0, 0))) : HS W0 fs gs (w.setRow g (Ls l)) :=
  ⟨below_setRow h.below hg _, fun x hx => ⟨(h.facts x hx).1, blk_row (h.facts x hx).2 (hn x hx)⟩,
   fun k hk => by
    obtain ⟨h2, l0, h3, h4⟩ := h.slots k hk
    by_cases e : k = g
    · subst e; exact ⟨h2, l, hl, ls_row h4⟩
    · exact ⟨h2, l0, h3, blk_row h4 e⟩⟩
theorem HS.add {W0 : World} {fs : List (Nat × List Int)} {gs : List Nat} {w : World} (h : HS W0 fs gs w) {b : Nat} {l : List Int} (hb : W0.heap.size ≤ b) (hf : w.heap[b]? = some (.cells (Ls l) 27 (0, 0))) : HS W0 ((b, l) :: fs) gs w :=
  ⟨h.below, fun x hx => by
    rcases List.mem_cons.1 hx with rfl | hx
    · exact ⟨hb, hf⟩
    · exact h.facts x hx, h.slots⟩
theorem HS.fresh {W0 : World} {fs : List (Nat × List Int)} {gs : List Nat} {w : World} (h : HS W0 fs gs w) : ∀ x ∈ fs, x.1 ≠ w.heap.size := fun x hx e => by
  have := blk_lt (h.facts x hx).2
  omega
theorem HS.get {W0 : World} {fs : List (Nat × List Int)} {gs : List Nat} {w : World} (h : HS W0 fs gs w) (b : Nat) (l : List Int) (hm : (b, l) ∈ fs) : w.heap[b]? = some (.cells (Ls l) 27 (0, 0)) := (h.facts _ hm).2
theorem HS.weaken {W0 : World} {fs fs' : List (Nat × List Int)} {gs gs' : List Nat} {w : World} (h : HS W0 fs gs w) (hf : ∀ x ∈ fs', x ∈ fs) (hg : ∀ x ∈ gs', x ∈ gs) : HS W0 fs' gs' w :=
  ⟨h.below, fun x hx => h.facts x (hf x hx), fun x hx => h.slots x (hg x hx)⟩

theorem yload {ops : Array Oper} {W0 : World} {fs : List (Nat × List Int)} {gs : List Nat} {op : Oper} {a : Act} (hw : Region.wanted op (yielded ops a.tmps) = true) (x : Operand) (ho : op.op = .load 27 x)
    (b : Nat) (l : List Int) (hx : a.eval x = .pointer (some ⟨b, 0, none⟩)) (hm : (b, l) ∈ fs) (hl : l.length = 4) : YieldsIf Try.prog ops (HS W0 fs gs) op (.agg (Ls l)) a :=
  .inl ⟨hw, fun w hS => by
    unfold execOp
    simp only [ho, hx, Instr.loadAt, Instr.sureAddr, Sem.run_bind, Sem.run_pure, Result.andThen_ok, run_loadVar_row w b 27 27 (Ls l) (0, 0) _ (hS.get b l hm) Try.underlying27 rfl (by rw [Ls_size, hl]; exact info27)]⟩

theorem step_store27 {ops : Array Oper} {o : Oper} {a : Act} {w : World} {K : Act → World → Prop} {Q : Exit → Act → World → Prop} {X : Prop} (hw : Region.wanted o (yielded ops a.tmps) = true) (x y : Operand) (ho : o.op = .store 27 x y)
    (g : Nat) (l l0 : List Int) (hx : a.eval x = .pointer (some ⟨g, 0, none⟩)) (hy : a.eval y = .agg (Ls l)) (hg : w.heap[g]? = some (.cells (Ls l0) 27 (0, 0))) (hl0 : l0.length = 4) (hl : l.length = 4)
    (h : K (a.put o.dst undef) (w.setRow g (Ls l))) : if Region.wanted o (yielded ops a.tmps) = true then Oper.wp Try.prog o a w K Q else X := by
  rw [if_pos hw]
  exact wp_store_row 27 x y ho g (Ls l) hx hy 27 (Ls l0) hg (by rw [Ls_size, hl]; exact info27) (by rw [Ls_size, Ls_size, hl, hl0]) (Ls_one l) h

end Go.Proofs.Ytfklojheogidpaa
