import Derived.Test.YtfklojheogidpaaWSized
import Derived.Test.YtfklojheogidpaaWWords
import Derived.ProofKit
import Derived.OpenShut
set_option linter.unusedVariables false
namespace Go.Proofs.Ytfklojheogidpaa
open Go.ChangeShapes Go.WideShapes Go.RowKit Go.Proofs.YtfklojheogidpaaW.PrintWords

theorem row_of_trod {H : Type} {enc : TypeId × Value → H} {P : Program} {W : World} {base : Nat} {held : Bool} {t e : TypeId} {k : IntKind} {a : Option Addr} {len cap : Nat} {d : DataW H} {ps : List MemPlace}
    (hu : P.underlying t = some (.slice e)) (he : P.underlying e = some (.int k)) (hc : P.cellsOf e = 1) (h : DataW.Trod enc P W base (fun _ => true) held t (.slice a len cap) d ps) :
    ∃ l : List Int, len = l.length ∧ Kd.C (Kd.int k) W a l.length l ∧ l.length ≤ cap ∧ (∀ x ∈ l, (Lit.int k x).wf = true) := by
  have w : (a = none ∧ len = 0 ∧ cap = 0 ∧ ([] : List Int) = []) ∨ ∃ zs : List Int, ∃ x, a = some x ∧ len ≤ cap ∧ cap ≤ maxLen ∧ zs.length = cap ∧ (∀ i, i < zs.length → W.cell? (x.add i) = some (.int k (zs.getD i 0))) ∧ ∀ n ∈ zs, (Lit.int k n).wf = true := by
    obtain ⟨fuel, hf⟩ := h
    rcases open_ints hu he hc hf with ⟨hcs, _⟩ | ⟨x, l, c, zs, hcs, _, hl, hm, hz, _, hcell, hwz⟩
    · simp [Value.cells] at hcs
      obtain ⟨rfl, rfl, rfl⟩ := hcs
      exact .inl ⟨rfl, rfl, rfl, rfl⟩
    · simp [Value.cells] at hcs
      obtain ⟨rfl, rfl, rfl⟩ := hcs
      exact .inr ⟨zs, _, rfl, hl, hm, by simpa using hz, hcell, hwz⟩
  rcases w with h0 | ⟨zs, h0⟩
  · obtain ⟨l, h1, h2, h3, h4, h5⟩ := ReadsInt.ofRowC (k := k) (w := W) (zs := []) (Or.inl h0)
    exact ⟨l, h1, Kd.C_of_reads (d := (0 : Int)) (h1 := fun _ => rfl) h2, h5, h4⟩
  · obtain ⟨l, h1, h2, h3, h4, h5⟩ := ReadsInt.ofRowC (k := k) (w := W) (zs := zs) (Or.inr h0)
    exact ⟨l, h1, Kd.C_of_reads (d := (0 : Int)) (h1 := fun _ => rfl) h2, h5, h4⟩

theorem okWide_array {P : Program} {w : World} {r : Reach} {base : Nat} {t : TypeId} {v : Value} {n : Nat} {e : TypeId} (ht : P.underlying t = some (.array n e)) (h : Value.okWide P w r base t v) : ∃ cs, v = .agg cs ∧ cs.size = P.cellsOf t := by
  simp only [Value.okWide, ht] at h
  obtain ⟨cs, h1, h2, _⟩ := h
  exact ⟨cs, h1, h2⟩

theorem open_arr {H : Type} {enc : TypeId × Value → H} {P : Program} {W : World} {base : Nat} {spare : Nat → Bool} {held : Bool} {r : Reach} {b0 : Nat} {n : Nat} {t e : TypeId} {k : IntKind} {v : Value} {d : DataW H} {ps : List MemPlace}
    (ht : P.underlying t = some (.array n e)) (he : P.underlying e = some (.int k)) (hc : P.cellsOf e = 1) (hn : P.cellsOf t = n) (hv : Value.okWide P W r b0 t v) (h : DataW.Trod enc P W base spare held t v d ps) :
    ∃ l : List Int, v = .agg (nums k l).toArray ∧ l.length = n ∧ ∀ x ∈ l, (Lit.int k x).wf = true := by
  obtain ⟨cs, rfl, hsz⟩ := okWide_array ht hv
  obtain ⟨fuel, hf⟩ := h
  obtain ⟨xs, m, _, _, hlen, hxs, hel⟩ := DataW.trod_array ht hf
  simp only [Value.cells] at hlen hel
  have hcs : cs.toList.length = n := by rw [Array.length_toList]; omega
  have hel' : ∀ i (hi : i < n), ∃ z : Int, cs.toList[i]? = some (.int k z) ∧ (Lit.int k z).wf = true := by
    intro i hi
    have h1 := hel i hi
    rw [hc, Nat.mul_one, List.getElem?_eq_getElem (by omega)] at h1
    obtain ⟨z, hz, _, hw⟩ := DataW.trod_int he h1
    refine ⟨z, ?_, hw⟩
    have h2 : (List.take 1 (List.drop i cs.toList))[0]? = some (.int k z) := by rw [hz]; rfl
    rw [List.getElem?_take, if_pos (by omega), List.getElem?_drop] at h2
    simpa using h2
  clear hel hf hv
  refine ⟨cs.toList.map (fun u => match u with | .int _ z => z | _ => 0), ?_, by simpa using hcs, ?_⟩
  · congr 1
    apply Array.ext'
    apply List.ext_getElem?
    intro i
    by_cases hi : i < n
    · obtain ⟨z, hz, _⟩ := hel' i hi
      simp [nums, hz]
    · rw [List.getElem?_eq_none (by omega), List.getElem?_eq_none (by simp [nums]; omega)]
  · intro x hx
    obtain ⟨i, hi, hxi⟩ := List.mem_iff_getElem.1 hx
    have hi' : i < n := by simpa [hcs] using hi
    obtain ⟨z, hz, hw⟩ := hel' i hi'
    have : x = z := by
      rw [← hxi, List.getElem_map]
      rw [List.getElem?_eq_getElem (by omega)] at hz
      rw [Option.some.inj hz]
    rw [this]; exact hw

end Go.Proofs.Ytfklojheogidpaa
