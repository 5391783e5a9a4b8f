/-
  The law redan/redanlaw06.CurveShares returns true whatever the input, and its arguments read afterwards as before; no condition.
-/
import Derived.Test.YtfklojheogidpaaRows
import Derived.Test.YtfklojheogidpaaLCurveShares
import Derived.Test.YtfklojheogidpaaRowKit
import Derived.WalkKit
import Derived.ProofKit
import Derived.OpenShut
import Derived.ShutString
import Derived.ChangeOld
import Derived.Below
import Derived.SizedLaws
namespace Go.Proofs.Ytfklojheogidpaa.curveShares
open Go.ChangeShapes Go.WideShapes Go.ChangeAt Go.RowKit Go.Proofs.Ytfklojheogidpaa
open Go.ChangeMaps (open_string shut_string)
open Go.Proofs.YtfklojheogidpaaW.PrintWords
set_option linter.unusedVariables false
theorem own : ownKnob Try.prog.godebug = none := by kernel_rfl
theorem laidOut : laidOutB Try.prog = true := by kernel_rfl
set_option maxRecDepth 100000 in
theorem lifted (os : Os) (started : os.Started) (H : Type) (enc : TypeId × Value → H) :
    ReturnsInHanded {} Try.checked os 14 .any (Rows.curveSharesSpec.pre6 enc Try.prog Try.f14 Rows.curveSharesRow.domain false) (Rows.curveSharesSpec.post enc Try.prog Try.f14 false true false false) := by
  refine returnsInHanded_of_change_sized (C := Try.checked) own started (by kernel_rfl) Try.func14
    (ChangeSpec.witness6 (enc := enc) (C := Try.checked) false ⟨#[], #[.slice none 0 0, .slice none 0 0], []⟩ 8 (by kernel_rfl) (by kernel_rfl) (by kernel_rfl) (by kernel_rfl)) ?_
  intro W base args ds gs before hval0 hW hcnd hsz0 _
  have hsz : (DataW.weightsEach Try.prog (Try.f14.params.toList ++ Rows.curveSharesSpec.plain.varTypes Try.prog) (ds ++ gs)).all (· ≤ reachBytes) = true := hsz0
  have hval : ∀ (j : Nat) t v, Try.f14.params[j]? = some t → args[j]? = some v → Value.okWide Try.prog W .any base t v := hval0
  have hW' := hW
  obtain ⟨p, q, hA0, hV, rfl, hfz, hnd⟩ := hW
  have hA : DataW.TrodAll enc Try.prog W 0 (fun _ => true) true Try.f14.params.toList args.toList ds p := hA0
  rw [Try.params14] at hA hval hsz
  obtain ⟨v0, vs0, d0, ds0, p0, q0, hargs, rfl, rfl, h0, r0⟩ := trodAll_cons hA
  obtain ⟨v1, vs1, d1, ds1, p1, q1, rfl, rfl, rfl, h1, r1⟩ := trodAll_cons r0
  obtain ⟨rfl, rfl, rfl⟩ := trodAll_nil r1
  obtain rfl : args = #[v0, v1] := by cases args; simp_all
  obtain ⟨rfl, rfl⟩ := trodVars_none hV
  have k0 := h0
  have lt0 : ∀ x ∈ p0, x.block < W.heap.size := by obtain ⟨m, hm⟩ := k0; exact DataW.trod_lt m _ _ _ hm
  have k1 := h1
  have lt1 : ∀ x ∈ p1, x.block < W.heap.size := by obtain ⟨m, hm⟩ := k1; exact DataW.trod_lt m _ _ _ hm
  obtain ⟨A0, len0, c0, rfl⟩ := okWide_slice Try.underlying22 (hval 0 22 v0 rfl rfl)
  obtain ⟨l0, rfl, hC0, hc0, hy0, hw0⟩ : ∃ l : List Int, len0 = l.length ∧ Kd.C (Kd.int .u8) W A0 l.length l ∧ l.length ≤ c0 ∧ l.length * 1 ≤ 140737488351232 ∧ (∀ x ∈ l, (Lit.int .u8 x).wf = true) := by
    have y : len0 * 1 ≤ 140737488351232 := sized_ints hsz (j := 0) (t := 22) rfl rfl Try.underlying22 Try.underlying5 (by kernel_rfl) (by kernel_rfl) h0
    obtain ⟨l, e, g1, g2, g3⟩ := row_of_trod Try.underlying22 Try.underlying5 (by kernel_rfl) h0
    subst e
    exact ⟨l, rfl, g1, g2, y, g3⟩
  obtain ⟨A1, len1, c1, rfl⟩ := okWide_slice Try.underlying22 (hval 1 22 v1 rfl rfl)
  obtain ⟨l1, rfl, hC1, hc1, hy1, hw1⟩ : ∃ l : List Int, len1 = l.length ∧ Kd.C (Kd.int .u8) W A1 l.length l ∧ l.length ≤ c1 ∧ l.length * 1 ≤ 140737488351232 ∧ (∀ x ∈ l, (Lit.int .u8 x).wf = true) := by
    have y : len1 * 1 ≤ 140737488351232 := sized_ints hsz (j := 1) (t := 22) rfl rfl Try.underlying22 Try.underlying5 (by kernel_rfl) (by kernel_rfl) h1
    obtain ⟨l, e, g1, g2, g3⟩ := row_of_trod Try.underlying22 Try.underlying5 (by kernel_rfl) h1
    subst e
    exact ⟨l, rfl, g1, g2, y, g3⟩
  clear hA0 hval0 hsz0 hsz
  refine (walk_CurveShares W A0 c0 l0 A1 c1 l1 hC0 hc0 hy0 (fun x hx => bounds_u8 (hw0 x hx)) hC1 hc1 hy1 (fun x hx => bounds_u8 (hw1 x hx))).mono fun e W' ⟨he, bel⟩ => ?_
  subst he
  exact ⟨_, rfl, _, _, _, [], _, [], hW', trodAll_mk1 (shut_bool Try.underlying4 _), (trodAll_cons_mk (Below.trod laidOut (by kernel_rfl) (of_decide_eq_true (by kernel_rfl)) k0 bel lt0) (trodAll_cons_mk (Below.trod laidOut (by kernel_rfl) (of_decide_eq_true (by kernel_rfl)) k1 bel lt1) trodAll_mk0)), rfl, bel.frame _, fun h => by cases h⟩
theorem over : Rows.curveSharesRow.holds Try.pinned (OpenSpec.ofChange Rows.curveSharesSpec) :=
  OpenClaim.holds_of_wide 14 Try.f14 rfl rfl rfl rfl rfl rfl rfl ⟨rfl, rfl, rfl, rfl, rfl⟩ rfl rfl rfl rfl rfl (by kernel_rfl) Try.func14 (by kernel_rfl)
    (of_decide_eq_true (by kernel_rfl)) (by unfold Func.isWrapper; first | (rw [if_pos (by decide +kernel)]; kernel_rfl) | (rw [if_neg (by decide +kernel)]; exact ⟨rfl, rfl⟩))
    (fun os started H enc _ => lifted os started H enc)
end Go.Proofs.Ytfklojheogidpaa.curveShares
namespace Go.Proofs.Ytfklojheogidpaa
/-- The law, for every input. -/
theorem curveShares_holds : Rows.CurveSharesSaid := curveShares.over
#print axioms curveShares_holds
end Go.Proofs.Ytfklojheogidpaa
