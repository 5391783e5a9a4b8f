import Derived.Test.YtkcjgkfgjbhfnaaWirP
set_option linter.unusedVariables false
set_option linter.unusedSimpArgs false
namespace Go.Proofs.Ytkcjgkfgjbhfnaa
open Go.RowKit Go.Proofs.YtkcjgkfgjbhfnaaW.PrintWords Go.Proofs.YtkcjgkfgjbhfnaaW.PrintLast Go.Proofs.YtkcjgkfgjbhfnaaW.PrintMore

/-! ### Bytes of a number, the lowest first -/
def st : Nat → Int → List Int
  | 0, _ => []
  | n + 1, x => x % 256 :: st n (x / 256)
theorem st_length (n : Nat) (x : Int) : (st n x).length = n := by
  induction n generalizing x with
  | zero => rfl
  | succ n ih => simp [st, ih]
def Byte (x : Int) : Prop := 0 ≤ x ∧ x ≤ 255
def Bytes (l : List Int) : Prop := ∀ x ∈ l, Byte x
theorem st_bytes (n : Nat) (x : Int) : Bytes (st n x) := by
  induction n generalizing x with
  | zero => intro y hy; cases hy
  | succ n ih =>
    intro y hy
    rcases List.mem_cons.1 hy with rfl | h
    · unfold Byte; omega
    · exact ih _ y h
theorem div256 (x : Int) (n : Nat) : x / 256 ^ n / 256 = x / 256 ^ (n + 1) := by
  rw [Int.ediv_ediv_of_nonneg (by exact Int.pow_nonneg (by omega)), Int.pow_succ]
theorem words4 (x : Int) (h0 : 0 ≤ x) (h1 : x ≤ 18446744073709551615) : Wr.words_Store.f 30 x 4 = some (st 4 x) := by
  have hs : IntKind.u64.wrap x = x := IntWalk.u64_in _ ⟨h0, by omega⟩
  simp [Wr.words_Store.f, Wr.words_Store.l0, mn, mx, shr, wrap64, IntKind.wrap, IntKind.signed, IntKind.bits, st, List.replicate]
  omega
theorem words8 (x : Int) (h0 : 0 ≤ x) (h1 : x ≤ 18446744073709551615) : Wr.words_Store.f 30 x 8 = some (st 8 x) := by
  have hs : IntKind.u64.wrap x = x := IntWalk.u64_in _ ⟨h0, by omega⟩
  simp [Wr.words_Store.f, Wr.words_Store.l0, mn, mx, shr, wrap64, IntKind.wrap, IntKind.signed, IntKind.bits, st, List.replicate]
  refine ⟨?_, ?_, ?_, ?_, ?_, ?_⟩ <;> omega
/-- The packet's bytes. -/
def putL (P : Pk) : List Int :=
  if P.k = 1 then [1] ++ st 4 P.f ++ st 4 P.t ++ [P.m % 256, P.p % 256, P.n % 256] ++ P.mac ++ P.body
  else if P.k = 2 then [2] ++ st 4 P.t ++ P.mac
  else [P.k % 256] ++ st 4 P.t ++ st 8 P.c ++ P.body
def signL (P : Pk) : List Int :=
  if P.k = 1 ∧ mayB P = true then [1] ++ st 4 P.f ++ st 4 P.t ++ [P.m % 256, P.p % 256, P.n % 256] ++ P.body else []
theorem join2 (a b : List Int) (ha : a.length ≤ 10000) (hb : b.length ≤ 10000) (k : Nat) : Wr.words_Join.f (k + 10) [a, b] = some (a ++ b) := by
  simp [Wr.words_Join.f, Wr.words_Join.l0, Wr.rd_L1, wrap64]
  omega
theorem join3 (a b c : List Int) (ha : a.length ≤ 10000) (hb : b.length ≤ 10000) (hc : c.length ≤ 10000) (k : Nat) : Wr.words_Join.f (k + 10) [a, b, c] = some (a ++ b ++ c) := by
  simp [Wr.words_Join.f, Wr.words_Join.l0, Wr.rd_L1, wrap64]
  omega
theorem join4 (a b c d : List Int) (ha : a.length ≤ 10000) (hb : b.length ≤ 10000) (hc : c.length ≤ 10000) (hd : d.length ≤ 10000) (k : Nat) : Wr.words_Join.f (k + 10) [a, b, c, d] = some (a ++ b ++ c ++ d) := by
  simp [Wr.words_Join.f, Wr.words_Join.l0, Wr.rd_L1, wrap64]
  omega
theorem four_ok (x : Int) (h : 0 ≤ x ∧ x ≤ 4294967295) : Wr.wire_four.f 30 x = some (st 4 x) := by
  unfold Wr.wire_four.f
  rw [show IntKind.u64.wrap x = x from IntWalk.u64_in _ ⟨h.1, by omega⟩, words4 x h.1 (by omega)]
  rfl
theorem head_ok (P : Pk) (h : P.ok) : Wr.wire_head.f 30 P.k P.f P.t P.m P.p P.n P.mac P.c P.body = some ([1] ++ st 4 P.f ++ st 4 P.t ++ [P.m % 256, P.p % 256, P.n % 256]) := by
  unfold Wr.wire_head.f
  rw [four_ok _ h.f, Option.bind_some, four_ok _ h.t, Option.bind_some, join4 _ _ _ _ (by simp) (by simp [st_length]) (by simp [st_length]) (by simp) 20]
  rfl
theorem put_ok (P : Pk) (h : P.ok) (hm : P.mac.length ≤ 5000) (hb : P.body.length ≤ 5000) : Wr.wire_Put.f 30 P.k P.f P.t P.m P.p P.n P.mac P.c P.body = some (if mayB P = true then putL P else [], if mayB P = true then 0 else 1) := by
  unfold Wr.wire_Put.f
  rw [wire_may_ok P h, Option.bind_some]
  by_cases c : mayB P = true
  · rw [if_pos c, if_pos c, if_pos c]
    unfold putL
    by_cases c1 : P.k = 1
    · rw [if_pos c1, if_pos c1, head_ok P h, Option.bind_some, join3 _ _ _ (by simp [st_length]) (by omega) (by omega) 20]
      rfl
    · rw [if_neg c1, if_neg c1]
      by_cases c2 : P.k = 2
      · rw [if_pos c2, if_pos c2, four_ok _ h.t, Option.bind_some, join3 _ _ _ (by simp) (by simp [st_length]) (by omega) 20]
        rfl
      · rw [if_neg c2, if_neg c2, four_ok _ h.t, Option.bind_some, words8 _ h.c.1 h.c.2, Option.bind_some, join4 _ _ _ _ (by simp) (by simp [st_length]) (by simp [st_length]) (by omega) 20]
        rfl
  · rw [if_neg c, if_neg c, if_neg c]
theorem sign_ok (P : Pk) (h : P.ok) (hm : P.mac.length ≤ 5000) (hb : P.body.length ≤ 5000) : Wr.wire_Signed.f 31 P.k P.f P.t P.m P.p P.n P.mac P.c P.body = some (signL P) := by
  unfold Wr.wire_Signed.f signL
  have e : ∀ b, Wr.wire_Signed.j0 31 b P.k P.f P.t P.m P.p P.n P.mac P.c P.body = some (if b = true then [] else [1] ++ st 4 P.f ++ st 4 P.t ++ [P.m % 256, P.p % 256, P.n % 256] ++ P.body) := by
    intro b
    simp only [Wr.wire_Signed.j0]
    by_cases c : b = true
    · rw [if_pos c, if_pos c]
    · rw [if_neg c, if_neg c, head_ok P h, Option.bind_some, join2 _ _ (by simp [st_length]) (by omega) 20]
      rfl
  by_cases c1 : P.k = 1
  · rw [if_pos c1, wire_may_ok P h, Option.bind_some, e]
    cases c : mayB P <;> simp [c1]
  · rw [if_neg c1, e]
    simp [c1]
end Go.Proofs.Ytkcjgkfgjbhfnaa
