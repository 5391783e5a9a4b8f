import Derived.Test.YtkcjgkfgjbhfnaaWirC
import Derived.Test.YtkcjgkfgjbhfnaaRw4
set_option linter.unusedVariables false
set_option linter.unusedSimpArgs false
namespace Go.Proofs.Ytkcjgkfgjbhfnaa
open Go.RowKit Go.Proofs.YtkcjgkfgjbhfnaaW.PrintWords Go.Proofs.YtkcjgkfgjbhfnaaW.PrintLast Go.Proofs.YtkcjgkfgjbhfnaaW.PrintMore
theorem refs (d : Nat) : ∀ (k : Nat) (x n i : Int) (out : List Int), 0 ≤ x → x ≤ 18446744073709551615 → 0 ≤ i → n ≤ 8 → n = i + d → d < k → out.length + d ≤ 1000 → Wr.redanref01_Store.l0 k x n out i = some (out ++ st d x) := by
  induction d with
  | zero =>
    intro k x n i out h0 h1 hi hn hd hk ho
    obtain ⟨k, rfl⟩ : ∃ m, k = m + 1 := ⟨k - 1, by omega⟩
    simp only [Wr.redanref01_Store.l0]
    rw [if_neg (by omega)]
    simp [st]
  | succ d ih =>
    intro k x n i out h0 h1 hi hn hd hk ho
    obtain ⟨k, rfl⟩ : ∃ m, k = m + 1 := ⟨k - 1, by omega⟩
    simp only [Wr.redanref01_Store.l0]
    rw [if_pos (by omega), if_pos (by omega), if_pos (by omega)]
    have e1 : Int.tdiv x 256 = x / 256 := Int.tdiv_eq_ediv_of_nonneg h0
    have e2 : Int.tmod x 256 = x % 256 := Int.tmod_eq_emod_of_nonneg h0
    have e3 : IntKind.u64.wrap (x / 256) = x / 256 := IntWalk.u64_in _ ⟨by omega, by omega⟩
    have e4 : wrap64 (i + 1) = i + 1 := by unfold wrap64; omega
    have e5 : x % 256 % 256 = x % 256 := by omega
    rw [e1, e2, e3, e4, e5, ih k (x / 256) n (i + 1) _ (by omega) (by omega) (by omega) hn (by omega) (by omega) (by simp; omega)]
    simp [st]
theorem ref4 (x : Int) (h0 : 0 ≤ x) (h1 : x ≤ 18446744073709551615) (k : Nat) : Wr.redanref01_Store.f (k + 5) x 4 = some (st 4 x) :=
  refs 4 (k + 5) x 4 0 [] h0 h1 (by omega) (by omega) (by omega) (by omega) (by simp)
theorem ref8 (x : Int) (h0 : 0 ≤ x) (h1 : x ≤ 18446744073709551615) (k : Nat) : Wr.redanref01_Store.f (k + 9) x 8 = some (st 8 x) :=
  refs 8 (k + 9) x 8 0 [] h0 h1 (by omega) (by omega) (by omega) (by omega) (by simp)
theorem rput_ok (P : Pk) (h : P.ok) (hk : mayB P = true) (hm : P.mac.length ≤ 5000) (hb : P.body.length ≤ 5000) (k : Nat) : Wr.redanref18_Put.f (k + 30) P.k P.f P.t P.m P.p P.n P.mac P.c P.body = some (putL P) := by
  have hP : MayP P := of_decide_eq_true hk
  have hf : IntKind.u64.wrap P.f = P.f := IntWalk.u64_in _ ⟨h.f.1, by have := h.f.2; omega⟩
  have ht : IntKind.u64.wrap P.t = P.t := IntWalk.u64_in _ ⟨h.t.1, by have := h.t.2; omega⟩
  unfold Wr.redanref18_Put.f putL
  rw [Option.bind_some]
  have s4f := ref4 P.f h.f.1 (by have := h.f.2; omega) (k + 25)
  have s4t := ref4 P.t h.t.1 (by have := h.t.2; omega) (k + 24)
  have s8 := ref8 P.c h.c.1 h.c.2 (k + 20)
  by_cases c1 : P.k = 1
  · have hmac : P.c = 0 ∧ P.mac.length = 16 := by unfold MayP at hP; omega
    rw [if_pos c1, if_pos c1, hf, s4f, Option.bind_some, if_pos (by simp [st_length])]
    simp only [Wr.redanref18_Put.j0]
    rw [ht, s4t, Option.bind_some, if_pos (by simp [st_length]), Option.bind_some, if_pos c1, Option.bind_some, if_pos (by simp [st_length]), Option.bind_some, if_pos (by simp [st_length]; omega), Option.bind_some, if_neg (by omega), if_pos (by simp [st_length]; omega), c1]
    rfl
  · have hp : P.k = 2 ∧ P.body = [] ∨ P.k = 3 ∧ P.mac = [] ∨ P.k = 4 ∧ P.mac = [] := by
      unfold MayP at hP
      rcases hP with h | h | h | h
      · exact absurd h.1 c1
      · exact .inl ⟨h.1, List.length_eq_zero_iff.1 h.2.2.2.2.2.2.2⟩
      · exact .inr (.inl ⟨h.1, List.length_eq_zero_iff.1 h.2.2.2.2.2.1⟩)
      · exact .inr (.inr ⟨h.1, List.length_eq_zero_iff.1 h.2.2.2.2.2.1⟩)
    rw [if_neg c1, if_neg c1]
    simp only [Wr.redanref18_Put.j0]
    rw [ht, s4t, Option.bind_some, if_pos (by simp [st_length]), Option.bind_some, if_neg c1, if_pos (by simp [st_length]; omega), Option.bind_some]
    rcases hp with ⟨h2, hm⟩ | ⟨h2, hm⟩ | ⟨h2, hm⟩
    · rw [if_neg (by omega), if_pos (by simp [st_length]; omega), if_pos h2, hm, h2]
      simp
    · rw [if_pos (by omega), s8, Option.bind_some, if_pos (by simp [st_length]; omega), Option.bind_some, if_pos (by simp [st_length]; omega), if_neg (by omega), hm]
      simp
    · rw [if_pos (by omega), s8, Option.bind_some, if_pos (by simp [st_length]; omega), Option.bind_some, if_pos (by simp [st_length]; omega), if_neg (by omega), hm]
      simp
theorem rsign_ok (P : Pk) (h : P.ok) (hm : P.mac.length ≤ 5000) (hb : P.body.length ≤ 5000) : Wr.redanref18_Signed.f 31 P.k P.f P.t P.m P.p P.n P.mac P.c P.body = some (signL P) := by
  unfold Wr.redanref18_Signed.f signL
  rw [ref_may_ok P h, Option.bind_some]
  cases c : mayB P
  · simp [Wr.redanref18_Signed.j0]
  · rw [if_pos rfl]
    simp only [Wr.redanref18_Signed.j0]
    by_cases c1 : P.k = 1
    · have hmac : P.mac.length = 16 := by have hP : MayP P := of_decide_eq_true c; unfold MayP at hP; omega
      have e : putL P = ([1] ++ st 4 P.f ++ st 4 P.t ++ [P.m % 256, P.p % 256, P.n % 256]) ++ (P.mac ++ P.body) := by unfold putL; rw [if_pos c1]; simp
      rw [if_neg (by simp [c1]), rput_ok P h c hm hb 0, Option.bind_some, if_pos (by rw [e]; simp [st_length]; omega), if_pos (by rw [e]; simp [st_length]; omega), if_pos ⟨c1, trivial⟩]
      have t : (putL P).take 12 = [1] ++ st 4 P.f ++ st 4 P.t ++ [P.m % 256, P.p % 256, P.n % 256] := by rw [e, List.take_left' (by simp [st_length])]
      have d : (putL P).drop 28 = P.body := by
        have e2 : putL P = ([1] ++ st 4 P.f ++ st 4 P.t ++ [P.m % 256, P.p % 256, P.n % 256] ++ P.mac) ++ P.body := by rw [e]; simp
        rw [e2, List.drop_left' (by simp [st_length]; omega)]
      rw [t, d]
      unfold Wr.redanref01_Join.f
      rw [if_pos (by simp [st_length]), Option.bind_some, if_pos (by simp [st_length]; omega)]
      simp
    · rw [if_pos (by simpa using c1), if_neg (fun h => c1 h.1)]
section
variable (P : Pk) (h : P.ok) {A B : Option Addr} {c d : Nat} (hm : P.mac.length ≤ 5000) (hb : P.body.length ≤ 5000) (w : World) (hA : Rd w A c P.mac) (hB : Rd w B d P.body)
include h hm hb hA hB
theorem rsign_any : Calls Try.prog 23 #[.agg #[.int .i64 P.k, .int .u32 P.f, .int .u32 P.t, .int .i64 P.m, .int .i64 P.p, .int .i64 P.n, .slice A P.mac.length c, .int .u64 P.c, .slice B P.body.length d]] w
    fun e w' => ∃ v, e = .returned v ∧ Own w' w.heap.size v (signL P) ∧ Below w.heap.size w w' :=
  Wr.redanref18_Signed.calls 31 P.k P.f P.t P.m P.p P.n A c P.mac P.c B d P.body _ w hA.r hA.c hB.r hB.c (rsign_ok P h hm hb)
theorem rput_any (hk : mayB P = true) : Calls Try.prog 24 #[.agg #[.int .i64 P.k, .int .u32 P.f, .int .u32 P.t, .int .i64 P.m, .int .i64 P.p, .int .i64 P.n, .slice A P.mac.length c, .int .u64 P.c, .slice B P.body.length d]] w
    fun e w' => ∃ v, e = .returned v ∧ Own w' w.heap.size v (putL P) ∧ Below w.heap.size w w' :=
  Wr.redanref18_Put.calls 30 P.k P.f P.t P.m P.p P.n A c P.mac P.c B d P.body _ w hA.r hA.c hB.r hB.c (rput_ok P h hk hm hb 0)
end
end Go.Proofs.Ytkcjgkfgjbhfnaa
