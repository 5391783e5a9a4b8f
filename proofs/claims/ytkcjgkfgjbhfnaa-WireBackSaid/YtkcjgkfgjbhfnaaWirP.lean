import Derived.Test.YtkcjgkfgjbhfnaaRows
import Derived.Test.YtkcjgkfgjbhfnaaPu
import Derived.Test.YtkcjgkfgjbhfnaaSi
import Derived.Laws.BitsLemmas
set_option linter.unusedVariables false
set_option linter.unusedSimpArgs false
namespace Go.Proofs.Ytkcjgkfgjbhfnaa
open Go.RowKit Go.Proofs.YtkcjgkfgjbhfnaaW.PrintWords Go.Proofs.YtkcjgkfgjbhfnaaW.PrintLast Go.Proofs.YtkcjgkfgjbhfnaaW.PrintMore

/-- A packet. -/
structure Pk where
  k : Int
  f : Int
  t : Int
  m : Int
  p : Int
  n : Int
  mac : List Int
  c : Int
  body : List Int
def I64 (x : Int) : Prop := -9223372036854775808 ≤ x ∧ x ≤ 9223372036854775807
structure Pk.ok (P : Pk) : Prop where
  k : I64 P.k
  f : 0 ≤ P.f ∧ P.f ≤ 4294967295
  t : 0 ≤ P.t ∧ P.t ≤ 4294967295
  m : I64 P.m
  p : I64 P.p
  n : I64 P.n
  c : 0 ≤ P.c ∧ P.c ≤ 18446744073709551615
def MayP (P : Pk) : Prop :=
  (P.k = 1 ∧ 0 ≤ P.m ∧ P.m ≤ 7 ∧ 1 ≤ P.n ∧ P.n ≤ 64 ∧ 0 ≤ P.p ∧ P.p < P.n ∧ P.mac.length = 16 ∧ P.c = 0 ∧ 1 ≤ P.body.length ∧ P.body.length ≤ 1024 ∧ (P.body.length = 1024 ∨ P.p + 1 = P.n)) ∨
  (P.k = 2 ∧ P.f = 0 ∧ P.m = 0 ∧ P.p = 0 ∧ P.n = 0 ∧ P.mac.length = 16 ∧ P.c = 0 ∧ P.body.length = 0) ∨
  (P.k = 3 ∧ P.f = 0 ∧ P.m = 0 ∧ P.p = 0 ∧ P.n = 0 ∧ P.mac.length = 0 ∧ 16 ≤ P.body.length ∧ P.body.length ≤ 1187) ∨
  (P.k = 4 ∧ P.f = 0 ∧ P.m = 0 ∧ P.p = 0 ∧ P.n = 0 ∧ P.mac.length = 0 ∧ P.body.length = 16)
instance (P : Pk) : Decidable (MayP P) := by unfold MayP; infer_instance
def mayB (P : Pk) : Bool := decide (MayP P)
theorem wrap64_i (n : Int) : IntKind.i64.wrap n = wrap64 n := by
  unfold wrap64
  simp [IntKind.wrap, IntKind.signed, IntKind.bits]
  split <;> omega
theorem or_zero (a b : Int) (ha : I64 a) (hb : I64 b) : bits .or .i64 a b = 0 ↔ a = 0 ∧ b = 0 := by
  unfold I64 at ha hb
  have e : ∀ x : Int, -9223372036854775808 ≤ x → x ≤ 9223372036854775807 → (BitVec.ofInt 64 x = 0#64 ↔ x = 0) := by
    intro x h0 h1
    constructor
    · intro h
      have := congrArg BitVec.toNat h
      simp only [BitVec.toNat_ofInt, BitVec.toNat_ofNat] at this
      omega
    · rintro rfl; rfl
  have e2 : bits .or .i64 a b = wrap64 ((BitVec.ofInt 64 a ||| BitVec.ofInt 64 b).toNat : Int) := wrap64_i _
  rw [e2]
  have hlt := (BitVec.ofInt 64 a ||| BitVec.ofInt 64 b).isLt
  constructor
  · intro h
    have h0 : (BitVec.ofInt 64 a ||| BitVec.ofInt 64 b).toNat = 0 := by
      unfold wrap64 at h
      omega
    have h1 : (BitVec.ofInt 64 a ||| BitVec.ofInt 64 b) = 0#64 := BitVec.eq_of_toNat_eq h0
    rw [BitVec.or_eq_zero_iff] at h1
    exact ⟨(e a ha.1 ha.2).1 h1.1, (e b hb.1 hb.2).1 h1.2⟩
  · rintro ⟨rfl, rfl⟩
    decide +kernel
theorem or_range (a b : Int) : I64 (bits .or .i64 a b) := by
  have e2 : bits .or .i64 a b = wrap64 ((BitVec.ofInt 64 a ||| BitVec.ofInt 64 b).toNat : Int) := wrap64_i _
  rw [e2]
  unfold wrap64 I64
  omega
theorem or3_zero (a b c : Int) (ha : I64 a) (hb : I64 b) (hc : I64 c) : bits .or .i64 (bits .or .i64 a b) c = 0 ↔ a = 0 ∧ b = 0 ∧ c = 0 := by
  rw [or_zero _ _ (or_range a b) hc, or_zero _ _ ha hb, and_assoc]
def Ok (P : Pk) (r : Option Bool) : Prop := r = some (mayB P)
theorem ite_ok {P : Pk} {c : Prop} [Decidable c] {a b : Option Bool} (h1 : c → Ok P a) (h2 : ¬ c → Ok P b) : Ok P (if c then a else b) := by
  by_cases h : c
  · rw [if_pos h]; exact h1 h
  · rw [if_neg h]; exact h2 h
theorem may_key {P : Pk} (b : Bool) (h : b = true ↔ MayP P) : Ok P (some b) := by
  unfold Ok
  congr 1
  unfold mayB
  rw [Bool.eq_iff_iff, h, decide_eq_true_eq]
set_option maxHeartbeats 4000000 in
theorem wire_may_ok (P : Pk) (h : P.ok) : Wr.wire_may.f P.k P.f P.t P.m P.p P.n P.mac P.c P.body = some (mayB P) := by
  obtain ⟨⟨h1, h2⟩, hf, ht, hm, hp, hn, hc⟩ := h
  have h3 := or3_zero P.m P.p P.n hm hp hn
  unfold I64 at hm hp hn
  unfold Wr.wire_may.f
  simp only [h3]
  clear h3
  refine (?_ : Ok P _)
  repeat' (refine ite_ok (fun _ => ?_) (fun _ => ?_))
  all_goals
    refine may_key _ ?_
    unfold MayP
    simp only [decide_eq_true_eq, beq_iff_eq, true_iff, reduceCtorEq, false_iff]
    try unfold wrap64 at *
    omega
set_option maxHeartbeats 4000000 in
theorem ref_may_ok (P : Pk) (h : P.ok) (k : Nat) : Wr.redanref18_May.f (k + 1) P.k P.f P.t P.m P.p P.n P.mac P.c P.body = some (mayB P) := by
  obtain ⟨⟨h1, h2⟩, hf, ht, hm, hp, hn, hc⟩ := h
  unfold I64 at hm hp hn
  unfold Wr.redanref18_May.f Wr.redanref18_May.j0
  refine (?_ : Ok P _)
  repeat' (refine ite_ok (fun _ => ?_) (fun _ => ?_))
  all_goals
    refine may_key _ ?_
    unfold MayP
    try simp only [decide_eq_true_eq, beq_iff_eq, bne_iff_ne, true_iff, reduceCtorEq, false_iff, ne_eq, not_true_eq_false, not_false_eq_true] at *
    try unfold wrap64 at *
    try omega
end Go.Proofs.Ytkcjgkfgjbhfnaa
