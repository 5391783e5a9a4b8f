import Derived.Test.YtkcjgkfgjbhfnaaRowKit
import Derived.Test.YtkcjgkfgjbhfnaaWirC
import Derived.ChangeArms
set_option linter.unusedVariables false
set_option linter.unusedSimpArgs false
namespace Go.Proofs.Ytkcjgkfgjbhfnaa
open Go.ChangeShapes Go.WideShapes Go.RowKit Go.Proofs.YtkcjgkfgjbhfnaaW.PrintWords

theorem array9 {α : Type} {cs : Array α} (h : cs.size = 9) : ∃ c0 c1 c2 c3 c4 c5 c6 c7 c8, cs = #[c0, c1, c2, c3, c4, c5, c6, c7, c8] := by
  obtain ⟨l⟩ := cs
  match l, h with
  | [c0, c1, c2, c3, c4, c5, c6, c7, c8], _ => exact ⟨c0, c1, c2, c3, c4, c5, c6, c7, c8, rfl⟩
theorem some_of {α : Type} {xs : List α} (i : Nat) (h : i < xs.length) : ∃ y, xs[i]? = some y := ⟨xs[i], List.getElem?_eq_getElem h⟩
theorem wf_i64 {z : Int} (h : (Lit.int .i64 z).wf = true) : I64 z := by
  simp [Lit.wf, IntKind.min, IntKind.max, IntKind.signed, IntKind.bits] at h
  unfold I64
  omega
theorem wf_u32 {z : Int} (h : (Lit.int .u32 z).wf = true) : 0 ≤ z ∧ z ≤ 4294967295 := by
  simp [Lit.wf, IntKind.min, IntKind.max, IntKind.signed, IntKind.bits] at h
  omega
theorem wf_u64 {z : Int} (h : (Lit.int .u64 z).wf = true) : 0 ≤ z ∧ z ≤ 18446744073709551615 := by
  simp [Lit.wf, IntKind.min, IntKind.max, IntKind.signed, IntKind.bits] at h
  omega
theorem wf_u8 {z : Int} (h : (Lit.int .u8 z).wf = true) : 0 ≤ z ∧ z ≤ 255 := by
  simp [Lit.wf, IntKind.min, IntKind.max, IntKind.signed, IntKind.bits] at h
  omega
section
variable {H : Type} {enc : TypeId × Value → H} {W : World} {base : Nat} {held : Bool}
theorem open_bytes {n : Nat} {v : Value} {y : DataW H × List MemPlace} (h : DataW.trod enc Try.prog W base (fun _ => true) held n 37 [v] = some y) : ∃ A c l, v = .slice A l.length c ∧ Rd W A c l := by
  have hv : ∃ A len cap, v = .slice A len cap := by
    rcases DataW.trod_slice Try.underlying37 h with ⟨e, _⟩ | ⟨a, len, cap, _, _, _, _, e, _⟩
    · exact ⟨none, 0, 0, by simpa using e⟩
    · exact ⟨some a, len, cap, by simpa using e⟩
  obtain ⟨A, len, cap, rfl⟩ := hv
  obtain ⟨l, rfl, h1, h2, h3⟩ := row_of_trod (d := y.1) (ps := y.2) Try.underlying37 Try.underlying5 (by kernel_rfl) ⟨n, h⟩
  exact ⟨A, cap, l, rfl, h1, h2, fun x hx => wf_u8 (h3 x hx)⟩
theorem open_one {n : Nat} {t : TypeId} {k : IntKind} {v : Value} {y : DataW H × List MemPlace} (ht : Try.prog.underlying t = some (.int k)) (h : DataW.trod enc Try.prog W base (fun _ => true) held n t [v] = some y) : ∃ z, v = .int k z ∧ (Lit.int k z).wf = true := by
  obtain ⟨z, hz, _, hw⟩ := DataW.trod_int ht h
  exact ⟨z, by simpa using hz, hw⟩
theorem open_pk {r : Reach} {b0 : Nat} {v : Value} {d : DataW H} {ps : List MemPlace} (hval : Value.okWide Try.prog W r b0 45 v) (h : DataW.Trod enc Try.prog W base (fun _ => true) held 45 v d ps) :
    ∃ (P : Pk) (A : Option Addr) (c : Nat) (B : Option Addr) (e : Nat), v = .agg #[.int .i64 P.k, .int .u32 P.f, .int .u32 P.t, .int .i64 P.m, .int .i64 P.p, .int .i64 P.n, .slice A P.mac.length c, .int .u64 P.c, .slice B P.body.length e] ∧ P.ok ∧ Rd W A c P.mac ∧ Rd W B e P.body := by
  obtain ⟨cs, rfl, hsz⟩ := okWide_struct Try.underlying45 hval
  rw [show Try.prog.cellsOf 45 = 9 by kernel_rfl] at hsz
  obtain ⟨c0, c1, c2, c3, c4, c5, c6, c7, c8, rfl⟩ := array9 hsz
  obtain ⟨fuel, hf⟩ := h
  obtain ⟨xs, n, _, _, _, hlen, hx⟩ := DataW.trod_struct Try.underlying45 hf
  replace hlen : xs.length = 9 := hlen
  have e3 : Try.prog.cellsOf 3 = 1 := by kernel_rfl
  have e43 : Try.prog.cellsOf 43 = 1 := by kernel_rfl
  have e37 : Try.prog.cellsOf 37 = 1 := by kernel_rfl
  have e24 : Try.prog.cellsOf 24 = 1 := by kernel_rfl
  obtain ⟨y0, g0⟩ := some_of (xs := xs) 0 (by omega)
  obtain ⟨y1, g1⟩ := some_of (xs := xs) 1 (by omega)
  obtain ⟨y2, g2⟩ := some_of (xs := xs) 2 (by omega)
  obtain ⟨y3, g3⟩ := some_of (xs := xs) 3 (by omega)
  obtain ⟨y4, g4⟩ := some_of (xs := xs) 4 (by omega)
  obtain ⟨y5, g5⟩ := some_of (xs := xs) 5 (by omega)
  obtain ⟨y6, g6⟩ := some_of (xs := xs) 6 (by omega)
  obtain ⟨y7, g7⟩ := some_of (xs := xs) 7 (by omega)
  obtain ⟨y8, g8⟩ := some_of (xs := xs) 8 (by omega)
  have t0 := (hx 0 _ rfl).trans g0
  have t1 := (hx 1 _ rfl).trans g1
  have t2 := (hx 2 _ rfl).trans g2
  have t3 := (hx 3 _ rfl).trans g3
  have t4 := (hx 4 _ rfl).trans g4
  have t5 := (hx 5 _ rfl).trans g5
  have t6 := (hx 6 _ rfl).trans g6
  have t7 := (hx 7 _ rfl).trans g7
  have t8 := (hx 8 _ rfl).trans g8
  simp only [Value.cells, e3, e43, e37, e24, List.drop_zero, List.drop_succ_cons, List.take_succ_cons, List.take_zero] at t0 t1 t2 t3 t4 t5 t6 t7 t8
  obtain ⟨k, rfl, hk⟩ := open_one Try.underlying3 t0
  obtain ⟨f, rfl, hff⟩ := open_one Try.underlying43 t1
  obtain ⟨t, rfl, ht⟩ := open_one Try.underlying43 t2
  obtain ⟨m, rfl, hm⟩ := open_one Try.underlying3 t3
  obtain ⟨p, rfl, hp⟩ := open_one Try.underlying3 t4
  obtain ⟨nn, rfl, hn⟩ := open_one Try.underlying3 t5
  obtain ⟨A, c, lm, rfl, hA⟩ := open_bytes t6
  obtain ⟨ctr, rfl, hc⟩ := open_one Try.underlying24 t7
  obtain ⟨B, e, lb, rfl, hB⟩ := open_bytes t8
  exact ⟨⟨k, f, t, m, p, nn, lm, ctr, lb⟩, A, c, B, e, rfl, ⟨wf_i64 hk, wf_u32 hff, wf_u32 ht, wf_i64 hm, wf_i64 hp, wf_i64 hn, wf_u64 hc⟩, hA, hB⟩
end
end Go.Proofs.Ytkcjgkfgjbhfnaa
