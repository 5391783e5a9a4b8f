import Derived.Test.YtkcjgkfgjbhfnaaWirG
import Derived.Laws.ResultCell
import Derived.Laws.Rows
set_option linter.unusedVariables false
set_option linter.unusedSimpArgs false
namespace Go.Proofs.Ytkcjgkfgjbhfnaa
open Go.RowKit Go.Proofs.YtkcjgkfgjbhfnaaW.PrintWords Go.Proofs.YtkcjgkfgjbhfnaaW.PrintLast Go.Proofs.YtkcjgkfgjbhfnaaW.PrintMore

/-- What Get answers. -/
def Gets (w : World) (l : List Int) (e : Ending) (w' : World) : Prop := ∃ A c B d, e = .returned (.tuple #[.agg #[.int .i64 (getP l).k, .int .u32 (getP l).f, .int .u32 (getP l).t, .int .i64 (getP l).m, .int .i64 (getP l).p, .int .i64 (getP l).n, .slice A (getP l).mac.length c, .int .u64 (getP l).c, .slice B (getP l).body.length d], .int .i64 (errn l)]) ∧ Rd w' A c (getP l).mac ∧ Rd w' B d (getP l).body ∧ Below w.heap.size w w'
theorem rd_nil (w : World) : Rd w none 0 [] := ⟨Kd.C_of_reads (d := (0 : Int)) ⟨rfl, by simp, fun h => by simp at h⟩, Nat.le_refl _, fun x hx => by cases hx⟩
theorem gets_bad {w w' : World} {l : List Int} {n : Int} (hg : good l = false) (hn : errn l = n) (hb : Below w.heap.size w w') :
    Gets w l (.returned (.tuple #[.agg #[.int .i64 0, .int .u32 0, .int .u32 0, .int .i64 0, .int .i64 0, .int .i64 0, .slice none 0 0, .int .u64 0, .slice none 0 0], .int .i64 n])) w' := by
  have e : getP l = zeroPk := by unfold getP; rw [hg]; rfl
  unfold Gets
  rw [e, hn]
  exact ⟨none, 0, none, 0, rfl, rd_nil _, rd_nil _, hb⟩
theorem gets_good {w w' : World} {l : List Int} {P : Pk} (hg : good l = true) (hn : errn l = 0) (hP : parse l = P) {A B : Option Addr} {c d la lb : Nat} (hla : P.mac.length = la) (hlb : P.body.length = lb) (hA : Rd w' A c P.mac) (hB : Rd w' B d P.body) (hb : Below w.heap.size w w') :
    Gets w l (.returned (.tuple #[.agg #[.int .i64 P.k, .int .u32 P.f, .int .u32 P.t, .int .i64 P.m, .int .i64 P.p, .int .i64 P.n, .slice A la c, .int .u64 P.c, .slice B lb d], .int .i64 0])) w' := by
  have e : getP l = P := by unfold getP; rw [if_pos hg, hP]
  subst hla hlb
  unfold Gets
  rw [e, hn]
  exact ⟨A, c, B, d, rfl, hA, hB, hb⟩
theorem blk_far' {w : World} {k : Nat} {o : Obj} {p : Addr} {v : Value} (hk : k ≠ p.block) (h : w.heap[k]? = some o) : (w.setCell p v).heap[k]? = some o := (Below.heap_setCell _ _ _ _ hk).trans h
theorem set9 {w : World} {g : Nat} {t : TypeId} {a b c d e f x h i : Value} (a' b' c' d' e' f' x' h' i' : Value) (hg : w.heap[g]? = some (.cells #[a, b, c, d, e, f, x, h, i] t (0, 0))) :
    (((((((((w.setCell ⟨g, 0, none⟩ a').setCell ⟨g, 1, none⟩ b').setCell ⟨g, 2, none⟩ c').setCell ⟨g, 3, none⟩ d').setCell ⟨g, 4, none⟩ e').setCell ⟨g, 5, none⟩ f').setCell ⟨g, 6, none⟩ x').setCell ⟨g, 7, none⟩ h').setCell ⟨g, 8, none⟩ i').heap[g]? = some (.cells #[a', b', c', d', e', f', x', h', i'] t (0, 0)) := by
  have k := blk_set (blk_set (blk_set (blk_set (blk_set (blk_set (blk_set (blk_set (blk_set hg 0 a') 1 b') 2 c') 3 d') 4 e') 5 f') 6 x') 7 h') 8 i'
  simp only [List.setIfInBounds_toArray, List.set_cons_zero, List.set_cons_succ] at k
  exact k
theorem ret_pk45 {fn : Func} {R : Ending → World → Prop} {a : Act} {w : World} (hf : fn.results = #[.cell 2 45, .tmp 3]) (g : Nat) (cs : Array Value) (n : Value)
    (hp : a.tmps.getD 2 undef = .pointer (some ⟨g, 0, none⟩)) (hn : a.tmps.getD 3 undef = n) (hg : w.heap[g]? = some (.cells cs 45 (0, 0))) (hi : (Try.prog.info? 45).map (·.size) = some cs.size)
    (hdf : a.defers = []) (hR : R (.returned (.tuple #[.agg cs, n])) w) : bodyPost Try.prog fn R .ret a w := by
  refine bodyPost_ret (v := .tuple #[.agg cs, n]) ?_ hdf hR
  rw [results_cell_tmp hf, hp, hn]
  have h := run_loadVar_row (P := Try.prog) w g 45 45 cs (0, 0) _ hg Try.underlying45 rfl hi
  simp [asAddr, h, Result.andThen]
theorem ret_pk46 {fn : Func} {R : Ending → World → Prop} {a : Act} {w : World} (hf : fn.results = #[.cell 2 46, .tmp 3]) (g : Nat) (cs : Array Value) (n : Value)
    (hp : a.tmps.getD 2 undef = .pointer (some ⟨g, 0, none⟩)) (hn : a.tmps.getD 3 undef = n) (hg : w.heap[g]? = some (.cells cs 46 (0, 0))) (hi : (Try.prog.info? 46).map (·.size) = some cs.size)
    (hdf : a.defers = []) (hR : R (.returned (.tuple #[.agg cs, n])) w) : bodyPost Try.prog fn R .ret a w := by
  refine bodyPost_ret (v := .tuple #[.agg cs, n]) ?_ hdf hR
  rw [results_cell_tmp hf, hp, hn]
  have h := run_loadVar_row (P := Try.prog) w g 46 46 cs (0, 0) _ hg Try.underlying46 rfl hi
  simp [asAddr, h, Result.andThen]
def z46 : Array Value := #[.int .i64 0, .int .u32 0, .int .u32 0, .int .i64 0, .int .i64 0, .int .i64 0, .slice none 0 0, .int .u64 0, .slice none 0 0]
theorem bcell {W w1 : World} (hb : Below W.heap.size W w1) : (∀ b o, b < W.heap.size → w1.cell? ⟨b, o, none⟩ = W.cell? ⟨b, o, none⟩) ∧ (∀ b o, b < W.heap.size → w1.frozen? ⟨b, o, none⟩ = W.frozen? ⟨b, o, none⟩) :=
  ⟨fun b o h => hb.cell (p := ⟨b, o, none⟩) h, fun b o h => hb.frozen (p := ⟨b, o, none⟩) h⟩
theorem byte_i {l : List Int} (hb : Bytes l) (i : Nat) : 0 ≤ l.getD i 0 ∧ l.getD i 0 ≤ 255 := by
  rw [List.getD_eq_getElem?_getD]
  rcases Nat.lt_or_ge i l.length with hi | hi
  · rw [List.getElem?_eq_getElem hi]; exact hb _ (List.getElem_mem hi)
  · rw [List.getElem?_eq_none hi]; simp
set_option maxRecDepth 100000 in
theorem le4 {l : List Int} (hb : Bytes l) (a b : Nat) (h : a + 4 = b) : 0 ≤ le ((l.take b).drop a) ∧ le ((l.take b).drop a) ≤ 4294967295 := by
  have := le_range ((l.take b).drop a) (fun x hx => hb x (List.mem_of_mem_take (List.mem_of_mem_drop hx)))
  have h2 : ((l.take b).drop a).length ≤ 4 := by simp; omega
  have h3 : (256 : Int) ^ ((l.take b).drop a).length ≤ 256 ^ 4 := by exact_mod_cast Nat.pow_le_pow_right (by omega) h2
  omega
set_option maxRecDepth 100000 in
theorem le8 {l : List Int} (hb : Bytes l) (a b : Nat) (h : a + 8 = b) : 0 ≤ le ((l.take b).drop a) ∧ le ((l.take b).drop a) ≤ 18446744073709551615 := by
  have := le_range ((l.take b).drop a) (fun x hx => hb x (List.mem_of_mem_take (List.mem_of_mem_drop hx)))
  have h2 : ((l.take b).drop a).length ≤ 8 := by simp; omega
  have h3 : (256 : Int) ^ ((l.take b).drop a).length ≤ 256 ^ 8 := by exact_mod_cast Nat.pow_le_pow_right (by omega) h2
  omega
end Go.Proofs.Ytkcjgkfgjbhfnaa
