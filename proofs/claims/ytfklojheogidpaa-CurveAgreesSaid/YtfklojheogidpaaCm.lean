import Derived.Test.YtfklojheogidpaaCp
set_option linter.unusedVariables false
set_option linter.unusedSimpArgs false
namespace Go.Proofs.Ytfklojheogidpaa
open Go.RowKit Go.Proofs.YtfklojheogidpaaW.PrintWords Go.Proofs.YtfklojheogidpaaW.PrintLast Go.Proofs.YtfklojheogidpaaW.PrintMore

/-! ### Blocks of words, read and written in their middle -/
theorem range_ls {w : World} {g off : Nat} {t : TypeId} {L l : List Int} (hg : w.heap[g]? = some (.cells (Ls L) t (0, 0))) (hsel : (L.drop off).take 4 = l) : w.rangeAt g off (nums .u64 l) := by
  intro j v hv
  rw [blk_cell hg (off + j)]
  subst hsel
  simp only [nums, List.getElem?_map, List.getElem?_take, List.getElem?_drop, Ls, List.getElem?_toArray] at hv ⊢
  split at hv
  · exact hv
  · simp at hv
theorem run_storeM {w : World} {g off : Nat} {t : TypeId} {L l L' : List Int} (hg : w.heap[g]? = some (.cells (Ls L) t (0, 0))) (hl : l.length = 4) (hf : off + 4 ≤ L.length) (hset : L.take off ++ l ++ L.drop (off + 4) = L') :
    (storeVar 27 ⟨g, off, none⟩ (.agg (Ls l))).run Try.prog w = .ok () (w.setRow g (Ls L')) := by
  subst hset
  have h1 := run_storeCells_at Try.prog g off t (nums .u64 l) 0 (Ls L) w hg (by rw [Ls_size]; simp [nums]; omega) (by
    intro v hv
    simp only [nums, List.mem_map] at hv
    obtain ⟨x, _, rfl⟩ := hv
    rfl)
  have e : ((Ls L).toList.take (off + 0) ++ nums .u64 l ++ (Ls L).toList.drop (off + 0 + (nums .u64 l).length)).toArray = Ls (L.take off ++ l ++ L.drop (off + 4)) := by
    simp [Ls, nums, hl, List.map_append, List.map_take, List.map_drop]
  rw [e] at h1
  have hi := info27
  cases hq : Try.prog.info? 27 with
  | none => rw [hq] at hi; cases hi
  | some i =>
    have hs : i.size = 4 := by rw [hq] at hi; simpa using hi
    unfold storeVar
    simp [Value.cells, sizeOf, typeInfo, hq, hs, Ls_size, hl]
    rw [← List.append_assoc]
    exact h1
section
variable {ops : Array Oper} {rest : List Oper} {o : Oper} {a : Act} {w : World} {Q : Exit → Act → World → Prop} {K : Act → World → Prop} {X : Prop}
theorem loadM (hgd : o.guard = none) (x : Operand) (ho : o.op = .load 27 x) (g off : Nat) (t : TypeId) (L l : List Int) (hx : a.eval x = .pointer (some ⟨g, off, none⟩)) (hg : w.heap[g]? = some (.cells (Ls L) t (0, 0))) (hl : l.length = 4) (hsel : (L.drop off).take 4 = l)
    (h : wpList Try.prog ops Q rest (a.put o.dst (.agg (Ls l))) w) : wpList Try.prog ops Q (o :: rest) a w :=
  wpList_load_mid hgd 27 x ho g off hx (nums .u64 l) _ (range_ls hg hsel) Try.underlying27 rfl (by simp only [nums, List.length_map, hl]; exact info27) h
theorem storeM (hgd : o.guard = none) (x y : Operand) (ho : o.op = .store 27 x y) (g off : Nat) (t : TypeId) (L l L' : List Int) (hx : a.eval x = .pointer (some ⟨g, off, none⟩)) (hy : a.eval y = .agg (Ls l)) (hg : w.heap[g]? = some (.cells (Ls L) t (0, 0))) (hl : l.length = 4) (hf : off + 4 ≤ L.length) (hset : L.take off ++ l ++ L.drop (off + 4) = L')
    (h : wpList Try.prog ops Q rest (a.put o.dst undef) (w.setRow g (Ls L'))) : wpList Try.prog ops Q (o :: rest) a w :=
  wpList_plain hgd fun _ hK => by
    unfold Oper.wp execOp
    simp only [ho, hx, hy, Instr.storeAt, Instr.sureAddr, Sem.run_bind, Sem.run_pure, Result.andThen_ok, run_storeM hg hl hf hset]
    exact hK _ _ h
end
/-- Four times four words. -/
def P4 (a b c d : List Int) : List Int := a ++ b ++ c ++ d
theorem P4_length {a b c d : List Int} (ha : a.length = 4) (hb : b.length = 4) (hc : c.length = 4) (hd : d.length = 4) : (P4 a b c d).length = 16 := by simp [P4, ha, hb, hc, hd]
theorem P4_0 {a b c d : List Int} (ha : a.length = 4) (hb : b.length = 4) (hc : c.length = 4) (hd : d.length = 4) : ((P4 a b c d).drop 0).take 4 = a := by simp [P4, ha, List.append_assoc, List.take_append_of_le_length]
theorem P4_4 {a b c d : List Int} (ha : a.length = 4) (hb : b.length = 4) (hc : c.length = 4) (hd : d.length = 4) : ((P4 a b c d).drop 4).take 4 = b := by
  have : (P4 a b c d) = a ++ (b ++ (c ++ d)) := by simp [P4]
  rw [this, List.drop_append_of_le_length (by omega), List.drop_of_length_le (by omega), List.nil_append, List.take_append_of_le_length (by omega), List.take_of_length_le (by omega)]
theorem P4_8 {a b c d : List Int} (ha : a.length = 4) (hb : b.length = 4) (hc : c.length = 4) (hd : d.length = 4) : ((P4 a b c d).drop 8).take 4 = c := by
  have : (P4 a b c d) = (a ++ b) ++ (c ++ d) := by simp [P4]
  rw [this, List.drop_append_of_le_length (by simp; omega), List.drop_of_length_le (by simp; omega), List.nil_append, List.take_append_of_le_length (by omega), List.take_of_length_le (by omega)]
theorem P4_12 {a b c d : List Int} (ha : a.length = 4) (hb : b.length = 4) (hc : c.length = 4) (hd : d.length = 4) : ((P4 a b c d).drop 12).take 4 = d := by
  have : (P4 a b c d) = (a ++ b ++ c) ++ d := by simp [P4]
  rw [this, List.drop_append_of_le_length (by simp; omega), List.drop_of_length_le (by simp; omega), List.nil_append, List.take_of_length_le (by omega)]
theorem P4_s0 {a b c d : List Int} (ha : a.length = 4) (hb : b.length = 4) (hc : c.length = 4) (hd : d.length = 4) (l : List Int) : (P4 a b c d).take 0 ++ l ++ (P4 a b c d).drop (0 + 4) = P4 l b c d := by
  have : (P4 a b c d) = a ++ (b ++ (c ++ d)) := by simp [P4]
  rw [this, List.drop_append_of_le_length (by omega), List.drop_of_length_le (by omega)]
  simp [P4]
theorem P4_s4 {a b c d : List Int} (ha : a.length = 4) (hb : b.length = 4) (hc : c.length = 4) (hd : d.length = 4) (l : List Int) : (P4 a b c d).take 4 ++ l ++ (P4 a b c d).drop (4 + 4) = P4 a l c d := by
  have e1 : (P4 a b c d) = a ++ (b ++ (c ++ d)) := by simp [P4]
  have e2 : (P4 a b c d) = (a ++ b) ++ (c ++ d) := by simp [P4]
  conv => lhs; lhs; rw [e1, List.take_append_of_le_length (by omega), List.take_of_length_le (by omega)]
  rw [e2, List.drop_append_of_le_length (by simp; omega), List.drop_of_length_le (by simp; omega)]
  simp [P4]
theorem P4_s8 {a b c d : List Int} (ha : a.length = 4) (hb : b.length = 4) (hc : c.length = 4) (hd : d.length = 4) (l : List Int) : (P4 a b c d).take 8 ++ l ++ (P4 a b c d).drop (8 + 4) = P4 a b l d := by
  have e1 : (P4 a b c d) = (a ++ b) ++ (c ++ d) := by simp [P4]
  have e2 : (P4 a b c d) = (a ++ b ++ c) ++ d := by simp [P4]
  conv => lhs; lhs; rw [e1, List.take_append_of_le_length (by simp; omega), List.take_of_length_le (by simp; omega)]
  rw [e2, List.drop_append_of_le_length (by simp; omega), List.drop_of_length_le (by simp; omega)]
  simp [P4]
theorem P4_s12 {a b c d : List Int} (ha : a.length = 4) (hb : b.length = 4) (hc : c.length = 4) (hd : d.length = 4) (l : List Int) : (P4 a b c d).take 12 ++ l ++ (P4 a b c d).drop (12 + 4) = P4 a b c l := by
  have e1 : (P4 a b c d) = (a ++ b ++ c) ++ d := by simp [P4]
  conv => lhs; lhs; rw [e1, List.take_append_of_le_length (by simp; omega), List.take_of_length_le (by simp; omega)]
  rw [List.drop_of_length_le (by simp [P4]; omega)]
  simp [P4]
/-- Four numbers' words. -/
def Q4 (x z s t : Int) : List Int := P4 (lim x) (lim z) (lim s) (lim t)
theorem Q4_length (x z s t : Int) : (Q4 x z s t).length = 16 := rfl
theorem info76 : (Try.prog.info? 76).map (·.size) = some 16 := by kernel_rfl
theorem info74 : (Try.prog.info? 74).map (·.size) = some 8 := by kernel_rfl
section
variable {ops : Array Oper} {rest : List Oper} {o : Oper} {a : Act} {w : World} {Q : Exit → Act → World → Prop}
theorem load76 (hgd : o.guard = none) (x : Operand) (ho : o.op = .load 76 x) (g : Nat) (L : List Int) (hx : a.eval x = .pointer (some ⟨g, 0, none⟩)) (hg : w.heap[g]? = some (.cells (Ls L) 76 (0, 0))) (hl : L.length = 16)
    (h : wpList Try.prog ops Q rest (a.put o.dst (.agg (Ls L))) w) : wpList Try.prog ops Q (o :: rest) a w :=
  wpList_load_row hgd 76 x ho g hx 76 (Ls L) (0, 0) _ hg Try.underlying76 rfl (by rw [Ls_size, hl]; exact info76) h
theorem store76 (hgd : o.guard = none) (x y : Operand) (ho : o.op = .store 76 x y) (g : Nat) (l l0 : List Int) (hx : a.eval x = .pointer (some ⟨g, 0, none⟩)) (hy : a.eval y = .agg (Ls l)) (hg : w.heap[g]? = some (.cells (Ls l0) 76 (0, 0))) (hl0 : l0.length = 16) (hl : l.length = 16)
    (h : wpList Try.prog ops Q rest (a.put o.dst undef) (w.setRow g (Ls l))) : wpList Try.prog ops Q (o :: rest) a w :=
  wpList_store_row hgd 76 x y ho g (Ls l) hx hy 76 (Ls l0) hg (by rw [Ls_size, hl]; exact info76) (by rw [Ls_size, Ls_size, hl, hl0]) (Ls_one l) h
end
theorem ret76 {fn : Func} {R : Ending → World → Prop} {a : Act} {w : World} {p : Tmp} (hf : fn.results = #[.cell p 76]) (g : Nat) (l : List Int) (hp : a.tmps.getD p undef = .pointer (some ⟨g, 0, none⟩)) (hg : w.heap[g]? = some (.cells (Ls l) 76 (0, 0))) (hl : l.length = 16)
    (hd : a.defers = []) (hR : R (.returned (.agg (Ls l))) w) : bodyPost Try.prog fn R .ret a w :=
  bodyPost_ret (results_cell_row hf _ _ g 76 (Ls l) (0, 0) _ hp hg Try.underlying76 rfl (by rw [Ls_size, hl]; exact info76)) hd hR
abbrev Z16 : Array Value := #[.int .u64 0, .int .u64 0, .int .u64 0, .int .u64 0, .int .u64 0, .int .u64 0, .int .u64 0, .int .u64 0, .int .u64 0, .int .u64 0, .int .u64 0, .int .u64 0, .int .u64 0, .int .u64 0, .int .u64 0, .int .u64 0]
theorem Z16_eq : Z16 = Ls (Q4 0 0 0 0) := rfl
end Go.Proofs.Ytfklojheogidpaa
