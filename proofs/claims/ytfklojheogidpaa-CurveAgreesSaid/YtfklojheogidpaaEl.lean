import Derived.Test.YtfklojheogidpaaRows
import Derived.Test.YtfklojheogidpaaRef3
import Derived.WalkKit
import Derived.WalkSpells
import Derived.WalkLawsBesides
import Derived.BigQuiet
import Derived.Deep.QuietTactic
import Derived.Lib.Hide
import Derived.Laws.Externs
set_option linter.unusedVariables false
namespace Go.Proofs.Ytfklojheogidpaa
open Go.RowKit Go.Proofs.YtfklojheogidpaaW.PrintWords

/-! ### Words of 64 bits, the lowest first -/
def B : Int := 18446744073709551616
def BB : Int := 115792089237316195423570985008687907853269984665640564039457584007913129639936
def val : List Int → Int
  | [] => 0
  | x :: l => x + 18446744073709551616 * val l
/-- The four words of a number. -/
def lim (v : Int) : List Int := [v % 18446744073709551616, v / 18446744073709551616 % 18446744073709551616, v / 340282366920938463463374607431768211456 % 18446744073709551616, v / 6277101735386680763835789423207666416102355444464034512896 % 18446744073709551616]
def Word (x : Int) : Prop := 0 ≤ x ∧ x < 18446744073709551616
def Ls (l : List Int) : Array Value := (nums .u64 l).toArray
def E (v : Int) : Array Value := Ls (lim v)

theorem lim_length (v : Int) : (lim v).length = 4 := rfl
theorem lim_word (v : Int) : ∀ x ∈ lim v, Word x := by
  intro x hx
  unfold Word
  simp only [lim, List.mem_cons, List.not_mem_nil, or_false] at hx
  rcases hx with rfl | rfl | rfl | rfl <;> omega
theorem val_lim (v : Int) (h0 : 0 ≤ v) (h1 : v < BB) : val (lim v) = v := by
  unfold BB at h1
  simp only [val, lim]
  omega
theorem lim_val (l : List Int) (hl : l.length = 4) (h : ∀ x ∈ l, Word x) : lim (val l) = l := by
  match l, hl with
  | [a, b, c, d], _ =>
    have ha := h a (by simp)
    have hb := h b (by simp)
    have hc := h c (by simp)
    have hd := h d (by simp)
    unfold Word at ha hb hc hd
    simp only [val, lim, List.cons.injEq, and_true]
    refine ⟨?_, ?_, ?_, ?_⟩ <;> omega
theorem val_range (l : List Int) (hl : l.length = 4) (h : ∀ x ∈ l, Word x) : 0 ≤ val l ∧ val l < BB := by
  match l, hl with
  | [a, b, c, d], _ =>
    have ha := h a (by simp)
    have hb := h b (by simp)
    have hc := h c (by simp)
    have hd := h d (by simp)
    unfold Word at ha hb hc hd
    simp only [val, BB]
    omega
theorem val_set (l : List Int) : ∀ (i : Nat) (x : Int), i < l.length → val (l.set i x) = val l + (x - l.getD i 0) * 18446744073709551616 ^ i := by
  induction l with
  | nil => intro i x h; simp at h
  | cons y l ih =>
    intro i x h
    cases i with
    | zero => simp only [List.set_cons_zero, val, List.getD_cons_zero, Int.pow_zero]; omega
    | succ i =>
      have := ih i x (by simpa using h)
      simp only [List.set_cons_succ, val, List.getD_cons_succ, this, Int.pow_succ]
      rw [Int.mul_add]
      have e : 18446744073709551616 * ((x - l.getD i 0) * 18446744073709551616 ^ i) = (x - l.getD i 0) * (18446744073709551616 ^ i * 18446744073709551616) := by
        rw [Int.mul_comm, Int.mul_assoc]
      rw [e]
      omega
theorem val_take_succ (l : List Int) : ∀ (i : Nat), i < l.length → val (l.take (i + 1)) = val (l.take i) + l.getD i 0 * 18446744073709551616 ^ i := by
  induction l with
  | nil => intro i h; simp at h
  | cons y l ih =>
    intro i h
    cases i with
    | zero => simp [val]
    | succ i =>
      have := ih i (by simpa using h)
      simp only [List.take_succ_cons, val, this, List.getD_cons_succ, Int.pow_succ]
      rw [Int.mul_add]
      have e : 18446744073709551616 * (l.getD i 0 * 18446744073709551616 ^ i) = l.getD i 0 * (18446744073709551616 ^ i * 18446744073709551616) := by
        rw [Int.mul_comm, Int.mul_assoc]
      rw [e]
      omega

/-! ### A block of words -/
theorem Ls_size (l : List Int) : (Ls l).size = l.length := by simp [Ls, nums]
theorem Ls_get (l : List Int) (i : Nat) (h : i < l.length) : (Ls l)[i]? = some (.int .u64 (l.getD i 0)) := by
  simp [Ls, nums, List.getElem?_eq_getElem h, List.getD_eq_getElem?_getD]
theorem Ls_set (l : List Int) (i : Nat) (x : Int) : (Ls l).setIfInBounds i (.int .u64 x) = Ls (l.set i x) := by
  simp [Ls, nums, List.map_set]
theorem Ls_one (l : List Int) : (Ls l).all (·.oneCell') = true := by
  simp [Ls, nums, List.all_map]
  intro x _
  rfl
theorem word_getD {l : List Int} (h : ∀ x ∈ l, Word x) (i : Nat) : Word (l.getD i 0) := by
  rw [List.getD_eq_getElem?_getD]
  rcases Nat.lt_or_ge i l.length with hi | hi
  · rw [List.getElem?_eq_getElem hi]; exact h _ (List.getElem_mem hi)
  · rw [List.getElem?_eq_none hi]; unfold Word; simp
theorem word_set {l : List Int} (h : ∀ x ∈ l, Word x) (i : Nat) (x : Int) (hx : Word x) : ∀ y ∈ l.set i x, Word y := by
  intro y hy
  rcases List.mem_or_eq_of_mem_set hy with h1 | h1
  · exact h y h1
  · rw [h1]; exact hx
theorem ls_cell {w : World} {g : Nat} {t : TypeId} {l : List Int} (h : w.heap[g]? = some (.cells (Ls l) t (0, 0))) (i : Nat) (hi : i < l.length) : w.cell? ⟨g, i, none⟩ = some (.int .u64 (l.getD i 0)) :=
  (blk_cell h i).trans (Ls_get l i hi)
theorem ls_set {w : World} {g : Nat} {t : TypeId} {l : List Int} (h : w.heap[g]? = some (.cells (Ls l) t (0, 0))) (i : Nat) (x : Int) : (w.setCell ⟨g, i, none⟩ (.int .u64 x)).heap[g]? = some (.cells (Ls (l.set i x)) t (0, 0)) := by
  rw [← Ls_set]; exact blk_set h i _

theorem below_setRow {B : Nat} {a w : World} (h : Below B a w) {g : Nat} (hg : B ≤ g) (cs : Array Value) : Below B a (w.setRow g cs) :=
  h.trans ⟨rfl, rfl, rfl, by simp, fun k hk => setRow_other w g k cs (by omega)⟩
theorem ls_row {w : World} {g : Nat} {t : TypeId} {old cs : Array Value} (h : w.heap[g]? = some (.cells old t (0, 0))) : (w.setRow g cs).heap[g]? = some (.cells cs t (0, 0)) := setRow_heap w g old cs t (0, 0) h
theorem blk_row {w : World} {g k : Nat} {o : Obj} {cs : Array Value} (h : w.heap[k]? = some o) (hk : k ≠ g) : (w.setRow g cs).heap[k]? = some o := (setRow_other w g k cs hk).trans h
theorem info27 : (Try.prog.info? 27).map (·.size) = some 4 := by kernel_rfl
section
variable {ops : Array Oper} {rest : List Oper} {o : Oper} {a : Act} {w : World} {Q : Exit → Act → World → Prop}
theorem load27 (hgd : o.guard = none) (x : Operand) (ho : o.op = .load 27 x) (g : Nat) (l : List Int) (hx : a.eval x = .pointer (some ⟨g, 0, none⟩)) (hg : w.heap[g]? = some (.cells (Ls l) 27 (0, 0))) (hl : l.length = 4)
    (h : wpList Try.prog ops Q rest (a.put o.dst (.agg (Ls l))) w) : wpList Try.prog ops Q (o :: rest) a w :=
  wpList_load_row hgd 27 x ho g hx 27 (Ls l) (0, 0) _ hg Try.underlying27 rfl (by rw [Ls_size, hl]; exact info27) h
theorem store27 (hgd : o.guard = none) (x y : Operand) (ho : o.op = .store 27 x y) (g : Nat) (l l0 : List Int) (hx : a.eval x = .pointer (some ⟨g, 0, none⟩)) (hy : a.eval y = .agg (Ls l)) (hg : w.heap[g]? = some (.cells (Ls l0) 27 (0, 0))) (hl0 : l0.length = 4) (hl : l.length = 4)
    (h : wpList Try.prog ops Q rest (a.put o.dst undef) (w.setRow g (Ls l))) : wpList Try.prog ops Q (o :: rest) a w :=
  wpList_store_row hgd 27 x y ho g (Ls l) hx hy 27 (Ls l0) hg (by rw [Ls_size, hl]; exact info27) (by rw [Ls_size, Ls_size, hl, hl0]) (Ls_one l) h
end
theorem ret27 {fn : Func} {R : Ending → World → Prop} {a : Act} {w : World} {p : Tmp} (hf : fn.results = #[.cell p 27]) (g : Nat) (l : List Int) (hp : a.tmps.getD p undef = .pointer (some ⟨g, 0, none⟩)) (hg : w.heap[g]? = some (.cells (Ls l) 27 (0, 0))) (hl : l.length = 4)
    (hd : a.defers = []) (hR : R (.returned (.agg (Ls l))) w) : bodyPost Try.prog fn R .ret a w :=
  bodyPost_ret (results_cell_row hf _ _ g 27 (Ls l) (0, 0) _ hp hg Try.underlying27 rfl (by rw [Ls_size, hl]; exact info27)) hd hR

/-! ### The intrinsics -/
theorem add64 (x y c : Int) (hx : 0 ≤ x) (hy : 0 ≤ y) (hc0 : 0 ≤ c) (hc : c ≤ 1) (w : World) :
    (callFunc 52 #[.int .u64 x, .int .u64 y, .int .u64 c]).run Try.prog w = .ok (.value (.tuple #[.int .u64 ((x + y + c) % 18446744073709551616), .int .u64 ((x + y + c) / 18446744073709551616)])) w := by
  rw [run_callFunc_extern Try.func52 (by kernel_rfl) (by kernel_rfl) (by kernel_rfl) (e := add64Entry) (by kernel_rfl), run_add64 x y c hx hy hc0 hc]
  simp only [Result.andThen]

def sub64Entry' : Array Value → Sem Value := fun args => do
  let (x, y, b) ← Extern.MathBitsCarry.three "Sub64" args
  pure (Extern.MathBitsCarry.pair ((x + Extern.MathBitsCarry.m64 - y - b) % Extern.MathBitsCarry.m64) (if x < y + b then 1 else 0))
theorem sub64 (x y b : Int) (hx : Word x) (hy : Word y) (hb : b = 0 ∨ b = 1) (w : World) :
    (callFunc 54 #[.int .u64 x, .int .u64 y, .int .u64 b]).run Try.prog w = .ok (.value (.tuple #[.int .u64 ((x - y - b) % 18446744073709551616), .int .u64 (if x < y + b then 1 else 0)])) w := by
  obtain ⟨hx0, hx1⟩ := hx
  obtain ⟨hy0, hy1⟩ := hy
  rw [run_callFunc_extern Try.func54 (by kernel_rfl) (by kernel_rfl) (by kernel_rfl) (e := sub64Entry') (by kernel_rfl)]
  obtain ⟨X, rfl⟩ := Int.eq_ofNat_of_zero_le hx0
  obtain ⟨Y, rfl⟩ := Int.eq_ofNat_of_zero_le hy0
  have key : ∀ k : Nat, k ≤ 1 → (sub64Entry' #[.int .u64 (X : Int), .int .u64 (Y : Int), .int .u64 (k : Int)]).run Try.prog w = .ok (Extern.MathBitsCarry.pair ((X + Extern.MathBitsCarry.m64 - Y - k) % Extern.MathBitsCarry.m64) (if X < Y + k then 1 else 0)) w := by
    intro k hk
    have : k = 0 ∨ k = 1 := by omega
    rcases this with rfl | rfl <;> rfl
  have fin : ∀ k : Nat, k ≤ 1 → ((sub64Entry' #[.int .u64 (X : Int), .int .u64 (Y : Int), .int .u64 (k : Int)]).run Try.prog w).andThen (fun v w => .ok (Next.value v) w) = .ok (.value (.tuple #[.int .u64 (((X : Int) - Y - k) % 18446744073709551616), .int .u64 (if (X : Int) < Y + k then 1 else 0)])) w := by
    intro k hk
    rw [key k hk]
    simp only [Result.andThen, Extern.MathBitsCarry.pair, Extern.MathBitsCarry.m64]
    have e1 : (Int.ofNat ((X + 2 ^ 64 - Y - k) % 2 ^ 64)) = ((X : Int) - Y - k) % 18446744073709551616 := by
      show (((X + 2 ^ 64 - Y - k) % 2 ^ 64 : Nat) : Int) = _
      omega
    have e2 : (Int.ofNat (if X < Y + k then 1 else 0)) = if (X : Int) < Y + k then 1 else 0 := by
      by_cases h : X < Y + k
      · rw [if_pos h, if_pos (by omega)]; rfl
      · rw [if_neg h, if_neg (by omega)]; rfl
    rw [e1, e2]
  rcases hb with rfl | rfl
  · exact fin 0 (by omega)
  · exact fin 1 (by omega)

end Go.Proofs.Ytfklojheogidpaa
