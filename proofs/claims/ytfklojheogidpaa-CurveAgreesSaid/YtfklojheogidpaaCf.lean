import Derived.Test.YtfklojheogidpaaCe
set_option linter.unusedVariables false
set_option linter.unusedSimpArgs false
namespace Go.Proofs.Ytfklojheogidpaa
open Go.RowKit Go.Proofs.YtfklojheogidpaaW.PrintWords
/-! ### A prime by a root whose powers are all rests; then Fermat -/
def Pr (n : Nat) : Prop := 1 < n ∧ ∀ a, 0 < a → a < n → Nat.Coprime a n
/-! Lists without doubles -/
theorem perm_of_sub {l1 : List Nat} : ∀ {l2 : List Nat}, l1.Nodup → (∀ x ∈ l1, x ∈ l2) → l2.length ≤ l1.length → l1.Perm l2 := by
  induction l1 with
  | nil =>
    intro l2 _ _ hl
    have : l2 = [] := List.eq_nil_of_length_eq_zero (by simpa using hl)
    subst this
    exact List.Perm.refl _
  | cons x l1 ih =>
    intro l2 hn hs hl
    rw [List.nodup_cons] at hn
    have hx := hs x (by simp)
    have hp := List.perm_cons_erase hx
    refine List.Perm.trans (List.Perm.cons x (ih hn.2 (fun y hy => ?_) ?_)) hp.symm
    · have hne : y ≠ x := fun e => hn.1 (e ▸ hy)
      exact (List.mem_erase_of_ne hne).2 (hs y (by simp [hy]))
    · have := hp.length_eq
      simp only [List.length_cons] at this hl
      omega
theorem nodup_map {f : Nat → Nat} : ∀ {l : List Nat}, l.Nodup → (∀ x ∈ l, ∀ y ∈ l, f x = f y → x = y) → (l.map f).Nodup := by
  intro l
  induction l with
  | nil => intro _ _; simp
  | cons x l ih =>
    intro hn hi
    rw [List.nodup_cons] at hn
    rw [List.map_cons, List.nodup_cons]
    refine ⟨fun h => ?_, ih hn.2 (fun a ha b hb => hi a (by simp [ha]) b (by simp [hb]))⟩
    obtain ⟨y, hy, e⟩ := List.mem_map.1 h
    have := hi y (by simp [hy]) x (by simp) e
    exact hn.1 (this ▸ hy)

theorem one_gcd (g n : Nat) (a b : Nat) : g ^ a % n = 1 % n → g ^ b % n = 1 % n → g ^ (Nat.gcd a b) % n = 1 % n := by
  induction a, b using Nat.gcd.induction with
  | H0 b => intro _ h; simpa using h
  | H1 a b h0 ih =>
    intro h1 h2
    rw [Nat.gcd_rec]
    refine ih ?_ h1
    have e : b = a * (b / a) + b % a := (Nat.div_add_mod b a).symm
    rw [e, Nat.pow_add, Nat.pow_mul, Nat.mul_mod, Nat.pow_mod (g ^ a), h1, ← Nat.pow_mod, Nat.one_pow, ← Nat.mul_mod, Nat.one_mul] at h2
    exact h2
theorem dvd_one_step (g n i d : Nat) (hg : 0 < g) (hc : Nat.Coprime g n) (h : g ^ (i + d) % n = g ^ i % n) : g ^ d % n = 1 % n := by
  have hd : n ∣ g ^ i * (g ^ d - 1) := by
    rw [Nat.mul_sub, Nat.mul_one, ← Nat.pow_add]
    exact Nat.dvd_of_mod_eq_zero (Nat.sub_mod_eq_zero_of_mod_eq h)
  have h1 := Nat.Coprime.dvd_of_dvd_mul_left (Nat.Coprime.pow_left i hc).symm hd
  obtain ⟨c, hc2⟩ := h1
  have hp : 0 < g ^ d := Nat.pow_pos hg
  have : g ^ d = 1 + n * c := by omega
  rw [this, Nat.add_mul_mod_self_left]

/-! A divisor of a product of primes -/
def prodL : List Nat → Nat
  | [] => 1
  | q :: l => q * prodL l
theorem Pr.dvd {q d : Nat} (h : Pr q) (hd : d ∣ q) : d = 1 ∨ d = q := by
  have hq0 : 0 < q := by have := h.1; omega
  have hle := Nat.le_of_dvd hq0 hd
  have hpos : 0 < d := Nat.pos_of_dvd_of_pos hd hq0
  rcases Nat.lt_or_ge d q with hlt | hge
  · have := h.2 d hpos hlt
    have e : Nat.gcd d q = d := Nat.gcd_eq_left hd
    exact Or.inl (e ▸ this)
  · exact Or.inr (by omega)
theorem prime_in (l : List Nat) (hl : ∀ q ∈ l, Pr q) : ∀ m, 1 < m → m ∣ prodL l → ∃ q ∈ l, q ∣ m := by
  induction l with
  | nil =>
    intro m h1 h2
    have : m = 1 := Nat.dvd_one.1 h2
    omega
  | cons q l ih =>
    intro m h1 h2
    have hq := hl q (by simp)
    rcases hq.dvd (Nat.gcd_dvd_right m q) with h | h
    · have h3 : m ∣ prodL l := Nat.Coprime.dvd_of_dvd_mul_left h h2
      obtain ⟨r, hr, hd⟩ := ih (fun r hr => hl r (by simp [hr])) m h1 h3
      exact ⟨r, by simp [hr], hd⟩
    · exact ⟨q, by simp, h ▸ Nat.gcd_dvd_left m q⟩

theorem lucas_all (n g : Nat) (l : List Nat) (hn : 1 < n) (hl : ∀ q ∈ l, Pr q) (hprod : prodL l = n - 1) (h1 : g ^ (n - 1) % n = 1) (hq : ∀ q ∈ l, g ^ ((n - 1) / q) % n ≠ 1) :
    Nat.Coprime g n ∧ ∀ a, 0 < a → a < n → ∃ k, g ^ k % n = a := by
  have h1n : 1 % n = 1 := Nat.mod_eq_of_lt hn
  have hN : 0 < n - 1 := by omega
  have hg : 0 < g := by
    rcases Nat.eq_zero_or_pos g with h | h
    · subst h; rw [Nat.zero_pow hN, Nat.zero_mod] at h1; omega
    · exact h
  have hc : Nat.Coprime g n := by
    have hd1 : Nat.gcd g n ∣ g ^ (n - 1) := by
      rw [show n - 1 = (n - 2) + 1 by omega, Nat.pow_succ]
      exact Nat.dvd_trans (Nat.gcd_dvd_left g n) (Nat.dvd_mul_left g _)
    have hd2 : Nat.gcd g n ∣ n * (g ^ (n - 1) / n) := Nat.dvd_trans (Nat.gcd_dvd_right g n) (Nat.dvd_mul_right n _)
    have e := Nat.div_add_mod (g ^ (n - 1)) n
    rw [h1] at e
    rw [← e] at hd1
    exact Nat.dvd_one.1 ((Nat.dvd_add_right hd2).1 hd1)
  have hinj : ∀ i d, d < n - 1 → g ^ (i + d) % n = g ^ i % n → d = 0 := by
    intro i d hd h
    rcases Nat.eq_zero_or_pos d with h0 | h0
    · exact h0
    · exfalso
      have hd1 := dvd_one_step g n i d hg hc h
      have ho := one_gcd g n d (n - 1) hd1 (by rw [h1, h1n])
      have hdv := Nat.gcd_dvd_right d (n - 1)
      have hle := Nat.le_of_dvd h0 (Nat.gcd_dvd_left d (n - 1))
      have hpos : 0 < Nat.gcd d (n - 1) := Nat.gcd_pos_of_pos_left _ h0
      generalize Nat.gcd d (n - 1) = o at *
      obtain ⟨m, hm⟩ := hdv
      have hm1 : 1 < m := by
        rcases Nat.lt_or_ge 1 m with h | h
        · exact h
        · exfalso
          have : o * m ≤ o * 1 := Nat.mul_le_mul_left o h
          omega
      obtain ⟨q, hql, hqm⟩ := prime_in l hl m hm1 (by rw [hprod, hm]; exact Nat.dvd_mul_left m o)
      obtain ⟨r, hr⟩ := hqm
      have hqpos : 0 < q := by have := (hl q hql).1; omega
      have e : (n - 1) / q = o * r := by
        rw [hm, hr, ← Nat.mul_assoc, Nat.mul_comm o q, Nat.mul_assoc, Nat.mul_div_cancel_left _ hqpos]
      refine hq q hql ?_
      rw [e, Nat.pow_mul, Nat.pow_mod, ho, ← Nat.pow_mod, Nat.one_pow, h1n]
  have hcop : ∀ k, Nat.Coprime (g ^ k) n := fun k => Nat.Coprime.pow_left k hc
  have hpos : ∀ k, 0 < g ^ k % n := by
    intro k
    rcases Nat.eq_zero_or_pos (g ^ k % n) with h | h
    · have hd := Nat.dvd_of_mod_eq_zero h
      have := Nat.Coprime.eq_one_of_dvd (hcop k).symm hd
      omega
    · exact h
  have hperm : ((List.range (n - 1)).map (fun k => g ^ k % n)).Perm ((List.range (n - 1)).map (fun k => k + 1)) := by
    refine perm_of_sub (nodup_map List.nodup_range ?_) ?_ (by simp)
    · intro x hx y hy h
      rw [List.mem_range] at hx hy
      rcases Nat.le_total x y with hxy | hxy
      · have := hinj x (y - x) (by omega) (by rw [show x + (y - x) = y by omega]; exact h.symm)
        omega
      · have := hinj y (x - y) (by omega) (by rw [show y + (x - y) = x by omega]; exact h)
        omega
    · intro x hx
      obtain ⟨k, _, rfl⟩ := List.mem_map.1 hx
      have := hpos k
      have hlt : g ^ k % n < n := Nat.mod_lt _ (by omega)
      exact List.mem_map.2 ⟨g ^ k % n - 1, List.mem_range.2 (by omega), by omega⟩
  refine ⟨hc, fun a ha0 ha1 => ?_⟩
  have hmem : a ∈ (List.range (n - 1)).map (fun k => k + 1) := List.mem_map.2 ⟨a - 1, List.mem_range.2 (by omega), by omega⟩
  obtain ⟨k, _, h⟩ := List.mem_map.1 (hperm.symm.subset hmem)
  exact ⟨k, h⟩
theorem lucas (n g : Nat) (l : List Nat) (hn : 1 < n) (hl : ∀ q ∈ l, Pr q) (hprod : prodL l = n - 1) (h1 : g ^ (n - 1) % n = 1) (hq : ∀ q ∈ l, g ^ ((n - 1) / q) % n ≠ 1) : Pr n := by
  refine ⟨hn, fun a ha0 ha1 => ?_⟩
  obtain ⟨hc, hall⟩ := lucas_all n g l hn hl hprod h1 hq
  obtain ⟨k, hk⟩ := hall a ha0 ha1
  rw [← hk]
  have := Nat.Coprime.pow_left k hc
  unfold Nat.Coprime at *
  rw [← Nat.gcd_rec, Nat.gcd_comm]
  exact this
theorem fermat (n g : Nat) (l : List Nat) (hn : 1 < n) (hl : ∀ q ∈ l, Pr q) (hprod : prodL l = n - 1) (h1 : g ^ (n - 1) % n = 1) (hq : ∀ q ∈ l, g ^ ((n - 1) / q) % n ≠ 1) (a : Nat) (ha0 : 0 < a) (ha1 : a < n) : a ^ (n - 1) % n = 1 := by
  obtain ⟨k, hk⟩ := (lucas_all n g l hn hl hprod h1 hq).2 a ha0 ha1
  rw [← hk, ← Nat.pow_mod, ← Nat.pow_mul, Nat.mul_comm, Nat.pow_mul, Nat.pow_mod, h1, Nat.one_pow, Nat.mod_eq_of_lt hn]

theorem lucas_c (n g : Nat) (l : List Nat) (f : Nat) (hn : 1 < n) (hl : ∀ q ∈ l, Pr q) (hprod : prodL l = n - 1) (hf : n - 1 < 2 ^ f) (h1 : powm n f g (n - 1) = 1) (hq : l.all (fun q => decide (powm n f g ((n - 1) / q) % n ≠ 1)) = true) :
    (g ^ (n - 1) % n = 1) ∧ ∀ q ∈ l, g ^ ((n - 1) / q) % n ≠ 1 := by
  refine ⟨?_, fun q hql => ?_⟩
  · rw [← powm_eq n f g _ hf, h1, Nat.mod_eq_of_lt hn]
  · have := List.all_eq_true.1 hq q hql
    have h2 := of_decide_eq_true this
    rw [powm_eq n f g _ (Nat.lt_of_le_of_lt (Nat.div_le_self _ _) hf)] at h2
    exact h2
theorem small (n : Nat) (hn : 1 < n) (h : (List.range n).all (fun a => a == 0 || Nat.gcd a n == 1) = true) : Pr n := by
  refine ⟨hn, fun a ha0 ha1 => ?_⟩
  have := List.all_eq_true.1 h a (List.mem_range.2 ha1)
  simp at this
  rcases this with h | h
  · omega
  · exact h

/-! ### The prime -/
theorem pr_2 : Pr 2 := small 2 (by decide) (by decide +kernel)
theorem pr_3 : Pr 3 := small 3 (by decide) (by decide +kernel)
theorem pr_11 : Pr 11 := small 11 (by decide) (by decide +kernel)
theorem pl_353 : ∀ q ∈ [2, 2, 2, 2, 2, 11], Pr q := by
  intro q hq
  simp only [List.mem_cons, List.not_mem_nil, or_false] at hq
  rcases hq with rfl | rfl | rfl | rfl | rfl | rfl
  · exact pr_2
  · exact pr_2
  · exact pr_2
  · exact pr_2
  · exact pr_2
  · exact pr_11
theorem pc_353 : (3 ^ (353 - 1) % 353 = 1) ∧ ∀ q ∈ [2, 2, 2, 2, 2, 11], 3 ^ ((353 - 1) / q) % 353 ≠ 1 := lucas_c 353 3 [2, 2, 2, 2, 2, 11] 256 (by decide) pl_353 (by decide +kernel) (by decide +kernel) (by decide +kernel) (by decide +kernel)
theorem pr_353 : Pr 353 := lucas 353 3 [2, 2, 2, 2, 2, 11] (by decide) pl_353 (by decide +kernel) pc_353.1 pc_353.2
theorem pr_5 : Pr 5 := small 5 (by decide) (by decide +kernel)
theorem pr_13 : Pr 13 := small 13 (by decide) (by decide +kernel)
theorem pr_97 : Pr 97 := small 97 (by decide) (by decide +kernel)
theorem pr_19 : Pr 19 := small 19 (by decide) (by decide +kernel)
theorem pl_419 : ∀ q ∈ [2, 11, 19], Pr q := by
  intro q hq
  simp only [List.mem_cons, List.not_mem_nil, or_false] at hq
  rcases hq with rfl | rfl | rfl
  · exact pr_2
  · exact pr_11
  · exact pr_19
theorem pc_419 : (2 ^ (419 - 1) % 419 = 1) ∧ ∀ q ∈ [2, 11, 19], 2 ^ ((419 - 1) / q) % 419 ≠ 1 := lucas_c 419 2 [2, 11, 19] 256 (by decide) pl_419 (by decide +kernel) (by decide +kernel) (by decide +kernel) (by decide +kernel)
theorem pr_419 : Pr 419 := lucas 419 2 [2, 11, 19] (by decide) pl_419 (by decide +kernel) pc_419.1 pc_419.2
theorem pr_7 : Pr 7 := small 7 (by decide) (by decide +kernel)
theorem pl_569003 : ∀ q ∈ [2, 7, 97, 419], Pr q := by
  intro q hq
  simp only [List.mem_cons, List.not_mem_nil, or_false] at hq
  rcases hq with rfl | rfl | rfl | rfl
  · exact pr_2
  · exact pr_7
  · exact pr_97
  · exact pr_419
theorem pc_569003 : (2 ^ (569003 - 1) % 569003 = 1) ∧ ∀ q ∈ [2, 7, 97, 419], 2 ^ ((569003 - 1) / q) % 569003 ≠ 1 := lucas_c 569003 2 [2, 7, 97, 419] 256 (by decide) pl_569003 (by decide +kernel) (by decide +kernel) (by decide +kernel) (by decide +kernel)
theorem pr_569003 : Pr 569003 := lucas 569003 2 [2, 7, 97, 419] (by decide) pl_569003 (by decide +kernel) pc_569003.1 pc_569003.2
theorem pr_29 : Pr 29 := small 29 (by decide) (by decide +kernel)
theorem pl_2437 : ∀ q ∈ [2, 2, 3, 7, 29], Pr q := by
  intro q hq
  simp only [List.mem_cons, List.not_mem_nil, or_false] at hq
  rcases hq with rfl | rfl | rfl | rfl | rfl
  · exact pr_2
  · exact pr_2
  · exact pr_3
  · exact pr_7
  · exact pr_29
theorem pc_2437 : (2 ^ (2437 - 1) % 2437 = 1) ∧ ∀ q ∈ [2, 2, 3, 7, 29], 2 ^ ((2437 - 1) / q) % 2437 ≠ 1 := lucas_c 2437 2 [2, 2, 3, 7, 29] 256 (by decide) pl_2437 (by decide +kernel) (by decide +kernel) (by decide +kernel) (by decide +kernel)
theorem pr_2437 : Pr 2437 := lucas 2437 2 [2, 2, 3, 7, 29] (by decide) pl_2437 (by decide +kernel) pc_2437.1 pc_2437.2
theorem pl_2773320623 : ∀ q ∈ [2, 2437, 569003], Pr q := by
  intro q hq
  simp only [List.mem_cons, List.not_mem_nil, or_false] at hq
  rcases hq with rfl | rfl | rfl
  · exact pr_2
  · exact pr_2437
  · exact pr_569003
theorem pc_2773320623 : (5 ^ (2773320623 - 1) % 2773320623 = 1) ∧ ∀ q ∈ [2, 2437, 569003], 5 ^ ((2773320623 - 1) / q) % 2773320623 ≠ 1 := lucas_c 2773320623 5 [2, 2437, 569003] 256 (by decide) pl_2773320623 (by decide +kernel) (by decide +kernel) (by decide +kernel) (by decide +kernel)
theorem pr_2773320623 : Pr 2773320623 := lucas 2773320623 5 [2, 2437, 569003] (by decide) pl_2773320623 (by decide +kernel) pc_2773320623.1 pc_2773320623.2
theorem pl_72106336199 : ∀ q ∈ [2, 13, 2773320623], Pr q := by
  intro q hq
  simp only [List.mem_cons, List.not_mem_nil, or_false] at hq
  rcases hq with rfl | rfl | rfl
  · exact pr_2
  · exact pr_13
  · exact pr_2773320623
theorem pc_72106336199 : (7 ^ (72106336199 - 1) % 72106336199 = 1) ∧ ∀ q ∈ [2, 13, 2773320623], 7 ^ ((72106336199 - 1) / q) % 72106336199 ≠ 1 := lucas_c 72106336199 7 [2, 13, 2773320623] 256 (by decide) pl_72106336199 (by decide +kernel) (by decide +kernel) (by decide +kernel) (by decide +kernel)
theorem pr_72106336199 : Pr 72106336199 := lucas 72106336199 7 [2, 13, 2773320623] (by decide) pl_72106336199 (by decide +kernel) pc_72106336199.1 pc_72106336199.2
theorem pr_47 : Pr 47 := small 47 (by decide) (by decide +kernel)
theorem pr_103 : Pr 103 := small 103 (by decide) (by decide +kernel)
theorem pl_991 : ∀ q ∈ [2, 3, 3, 5, 11], Pr q := by
  intro q hq
  simp only [List.mem_cons, List.not_mem_nil, or_false] at hq
  rcases hq with rfl | rfl | rfl | rfl | rfl
  · exact pr_2
  · exact pr_3
  · exact pr_3
  · exact pr_5
  · exact pr_11
theorem pc_991 : (6 ^ (991 - 1) % 991 = 1) ∧ ∀ q ∈ [2, 3, 3, 5, 11], 6 ^ ((991 - 1) / q) % 991 ≠ 1 := lucas_c 991 6 [2, 3, 3, 5, 11] 256 (by decide) pl_991 (by decide +kernel) (by decide +kernel) (by decide +kernel) (by decide +kernel)
theorem pr_991 : Pr 991 := lucas 991 6 [2, 3, 3, 5, 11] (by decide) pl_991 (by decide +kernel) pc_991.1 pc_991.2
theorem pl_8574133 : ∀ q ∈ [2, 2, 3, 7, 103, 991], Pr q := by
  intro q hq
  simp only [List.mem_cons, List.not_mem_nil, or_false] at hq
  rcases hq with rfl | rfl | rfl | rfl | rfl | rfl
  · exact pr_2
  · exact pr_2
  · exact pr_3
  · exact pr_7
  · exact pr_103
  · exact pr_991
theorem pc_8574133 : (2 ^ (8574133 - 1) % 8574133 = 1) ∧ ∀ q ∈ [2, 2, 3, 7, 103, 991], 2 ^ ((8574133 - 1) / q) % 8574133 ≠ 1 := lucas_c 8574133 2 [2, 2, 3, 7, 103, 991] 256 (by decide) pl_8574133 (by decide +kernel) (by decide +kernel) (by decide +kernel) (by decide +kernel)
theorem pr_8574133 : Pr 8574133 := lucas 8574133 2 [2, 2, 3, 7, 103, 991] (by decide) pl_8574133 (by decide +kernel) pc_8574133.1 pc_8574133.2
theorem pr_127 : Pr 127 := small 127 (by decide) (by decide +kernel)
theorem pl_1919519569386763 : ∀ q ∈ [2, 3, 7, 19, 47, 47, 127, 8574133], Pr q := by
  intro q hq
  simp only [List.mem_cons, List.not_mem_nil, or_false] at hq
  rcases hq with rfl | rfl | rfl | rfl | rfl | rfl | rfl | rfl
  · exact pr_2
  · exact pr_3
  · exact pr_7
  · exact pr_19
  · exact pr_47
  · exact pr_47
  · exact pr_127
  · exact pr_8574133
theorem pc_1919519569386763 : (2 ^ (1919519569386763 - 1) % 1919519569386763 = 1) ∧ ∀ q ∈ [2, 3, 7, 19, 47, 47, 127, 8574133], 2 ^ ((1919519569386763 - 1) / q) % 1919519569386763 ≠ 1 := lucas_c 1919519569386763 2 [2, 3, 7, 19, 47, 47, 127, 8574133] 256 (by decide) pl_1919519569386763 (by decide +kernel) (by decide +kernel) (by decide +kernel) (by decide +kernel)
theorem pr_1919519569386763 : Pr 1919519569386763 := lucas 1919519569386763 2 [2, 3, 7, 19, 47, 47, 127, 8574133] (by decide) pl_1919519569386763 (by decide +kernel) pc_1919519569386763.1 pc_1919519569386763.2
theorem pr_83 : Pr 83 := small 83 (by decide) (by decide +kernel)
theorem pl_9463 : ∀ q ∈ [2, 3, 19, 83], Pr q := by
  intro q hq
  simp only [List.mem_cons, List.not_mem_nil, or_false] at hq
  rcases hq with rfl | rfl | rfl | rfl
  · exact pr_2
  · exact pr_3
  · exact pr_19
  · exact pr_83
theorem pc_9463 : (3 ^ (9463 - 1) % 9463 = 1) ∧ ∀ q ∈ [2, 3, 19, 83], 3 ^ ((9463 - 1) / q) % 9463 ≠ 1 := lucas_c 9463 3 [2, 3, 19, 83] 256 (by decide) pl_9463 (by decide +kernel) (by decide +kernel) (by decide +kernel) (by decide +kernel)
theorem pr_9463 : Pr 9463 := lucas 9463 3 [2, 3, 19, 83] (by decide) pl_9463 (by decide +kernel) pc_9463.1 pc_9463.2
theorem pl_37853 : ∀ q ∈ [2, 2, 9463], Pr q := by
  intro q hq
  simp only [List.mem_cons, List.not_mem_nil, or_false] at hq
  rcases hq with rfl | rfl | rfl
  · exact pr_2
  · exact pr_2
  · exact pr_9463
theorem pc_37853 : (2 ^ (37853 - 1) % 37853 = 1) ∧ ∀ q ∈ [2, 2, 9463], 2 ^ ((37853 - 1) / q) % 37853 ≠ 1 := lucas_c 37853 2 [2, 2, 9463] 256 (by decide) pl_37853 (by decide +kernel) (by decide +kernel) (by decide +kernel) (by decide +kernel)
theorem pr_37853 : Pr 37853 := lucas 37853 2 [2, 2, 9463] (by decide) pl_37853 (by decide +kernel) pc_37853.1 pc_37853.2
theorem pl_75707 : ∀ q ∈ [2, 37853], Pr q := by
  intro q hq
  simp only [List.mem_cons, List.not_mem_nil, or_false] at hq
  rcases hq with rfl | rfl
  · exact pr_2
  · exact pr_37853
theorem pc_75707 : (2 ^ (75707 - 1) % 75707 = 1) ∧ ∀ q ∈ [2, 37853], 2 ^ ((75707 - 1) / q) % 75707 ≠ 1 := lucas_c 75707 2 [2, 37853] 256 (by decide) pl_75707 (by decide +kernel) (by decide +kernel) (by decide +kernel) (by decide +kernel)
theorem pr_75707 : Pr 75707 := lucas 75707 2 [2, 37853] (by decide) pl_75707 (by decide +kernel) pc_75707.1 pc_75707.2
theorem pl_75445702479781427272750846543864801 : ∀ q ∈ [2, 2, 2, 2, 2, 3, 3, 5, 5, 75707, 72106336199, 1919519569386763], Pr q := by
  intro q hq
  simp only [List.mem_cons, List.not_mem_nil, or_false] at hq
  rcases hq with rfl | rfl | rfl | rfl | rfl | rfl | rfl | rfl | rfl | rfl | rfl | rfl
  · exact pr_2
  · exact pr_2
  · exact pr_2
  · exact pr_2
  · exact pr_2
  · exact pr_3
  · exact pr_3
  · exact pr_5
  · exact pr_5
  · exact pr_75707
  · exact pr_72106336199
  · exact pr_1919519569386763
theorem pc_75445702479781427272750846543864801 : (7 ^ (75445702479781427272750846543864801 - 1) % 75445702479781427272750846543864801 = 1) ∧ ∀ q ∈ [2, 2, 2, 2, 2, 3, 3, 5, 5, 75707, 72106336199, 1919519569386763], 7 ^ ((75445702479781427272750846543864801 - 1) / q) % 75445702479781427272750846543864801 ≠ 1 := lucas_c 75445702479781427272750846543864801 7 [2, 2, 2, 2, 2, 3, 3, 5, 5, 75707, 72106336199, 1919519569386763] 256 (by decide) pl_75445702479781427272750846543864801 (by decide +kernel) (by decide +kernel) (by decide +kernel) (by decide +kernel)
theorem pr_75445702479781427272750846543864801 : Pr 75445702479781427272750846543864801 := lucas 75445702479781427272750846543864801 7 [2, 2, 2, 2, 2, 3, 3, 5, 5, 75707, 72106336199, 1919519569386763] (by decide) pl_75445702479781427272750846543864801 (by decide +kernel) pc_75445702479781427272750846543864801.1 pc_75445702479781427272750846543864801.2
theorem pr_131 : Pr 131 := small 131 (by decide) (by decide +kernel)
theorem pl_132049 : ∀ q ∈ [2, 2, 2, 2, 3, 3, 7, 131], Pr q := by
  intro q hq
  simp only [List.mem_cons, List.not_mem_nil, or_false] at hq
  rcases hq with rfl | rfl | rfl | rfl | rfl | rfl | rfl | rfl
  · exact pr_2
  · exact pr_2
  · exact pr_2
  · exact pr_2
  · exact pr_3
  · exact pr_3
  · exact pr_7
  · exact pr_131
theorem pc_132049 : (26 ^ (132049 - 1) % 132049 = 1) ∧ ∀ q ∈ [2, 2, 2, 2, 3, 3, 7, 131], 26 ^ ((132049 - 1) / q) % 132049 ≠ 1 := lucas_c 132049 26 [2, 2, 2, 2, 3, 3, 7, 131] 256 (by decide) pl_132049 (by decide +kernel) (by decide +kernel) (by decide +kernel) (by decide +kernel)
theorem pr_132049 : Pr 132049 := lucas 132049 26 [2, 2, 2, 2, 3, 3, 7, 131] (by decide) pl_132049 (by decide +kernel) pc_132049.1 pc_132049.2
theorem pr_107 : Pr 107 := small 107 (by decide) (by decide +kernel)
theorem pr_41 : Pr 41 := small 41 (by decide) (by decide +kernel)
theorem pl_1723 : ∀ q ∈ [2, 3, 7, 41], Pr q := by
  intro q hq
  simp only [List.mem_cons, List.not_mem_nil, or_false] at hq
  rcases hq with rfl | rfl | rfl | rfl
  · exact pr_2
  · exact pr_3
  · exact pr_7
  · exact pr_41
theorem pc_1723 : (3 ^ (1723 - 1) % 1723 = 1) ∧ ∀ q ∈ [2, 3, 7, 41], 3 ^ ((1723 - 1) / q) % 1723 ≠ 1 := lucas_c 1723 3 [2, 3, 7, 41] 256 (by decide) pl_1723 (by decide +kernel) (by decide +kernel) (by decide +kernel) (by decide +kernel)
theorem pr_1723 : Pr 1723 := lucas 1723 3 [2, 3, 7, 41] (by decide) pl_1723 (by decide +kernel) pc_1723.1 pc_1723.2
theorem pl_430751 : ∀ q ∈ [2, 5, 5, 5, 1723], Pr q := by
  intro q hq
  simp only [List.mem_cons, List.not_mem_nil, or_false] at hq
  rcases hq with rfl | rfl | rfl | rfl | rfl
  · exact pr_2
  · exact pr_5
  · exact pr_5
  · exact pr_5
  · exact pr_1723
theorem pc_430751 : (17 ^ (430751 - 1) % 430751 = 1) ∧ ∀ q ∈ [2, 5, 5, 5, 1723], 17 ^ ((430751 - 1) / q) % 430751 ≠ 1 := lucas_c 430751 17 [2, 5, 5, 5, 1723] 256 (by decide) pl_430751 (by decide +kernel) (by decide +kernel) (by decide +kernel) (by decide +kernel)
theorem pr_430751 : Pr 430751 := lucas 430751 17 [2, 5, 5, 5, 1723] (by decide) pl_430751 (by decide +kernel) pc_430751.1 pc_430751.2
theorem pr_173 : Pr 173 := small 173 (by decide) (by decide +kernel)
theorem pl_4153 : ∀ q ∈ [2, 2, 2, 3, 173], Pr q := by
  intro q hq
  simp only [List.mem_cons, List.not_mem_nil, or_false] at hq
  rcases hq with rfl | rfl | rfl | rfl | rfl
  · exact pr_2
  · exact pr_2
  · exact pr_2
  · exact pr_3
  · exact pr_173
theorem pc_4153 : (5 ^ (4153 - 1) % 4153 = 1) ∧ ∀ q ∈ [2, 2, 2, 3, 173], 5 ^ ((4153 - 1) / q) % 4153 ≠ 1 := lucas_c 4153 5 [2, 2, 2, 3, 173] 256 (by decide) pl_4153 (by decide +kernel) (by decide +kernel) (by decide +kernel) (by decide +kernel)
theorem pr_4153 : Pr 4153 := lucas 4153 5 [2, 2, 2, 3, 173] (by decide) pl_4153 (by decide +kernel) pc_4153.1 pc_4153.2
theorem pr_31 : Pr 31 := small 31 (by decide) (by decide +kernel)
theorem pr_37 : Pr 37 := small 37 (by decide) (by decide +kernel)
theorem pl_223 : ∀ q ∈ [2, 3, 37], Pr q := by
  intro q hq
  simp only [List.mem_cons, List.not_mem_nil, or_false] at hq
  rcases hq with rfl | rfl | rfl
  · exact pr_2
  · exact pr_3
  · exact pr_37
theorem pc_223 : (3 ^ (223 - 1) % 223 = 1) ∧ ∀ q ∈ [2, 3, 37], 3 ^ ((223 - 1) / q) % 223 ≠ 1 := lucas_c 223 3 [2, 3, 37] 256 (by decide) pl_223 (by decide +kernel) (by decide +kernel) (by decide +kernel) (by decide +kernel)
theorem pr_223 : Pr 223 := lucas 223 3 [2, 3, 37] (by decide) pl_223 (by decide +kernel) pc_223.1 pc_223.2
theorem pl_31757755568855353 : ∀ q ∈ [2, 2, 2, 3, 31, 107, 223, 4153, 430751], Pr q := by
  intro q hq
  simp only [List.mem_cons, List.not_mem_nil, or_false] at hq
  rcases hq with rfl | rfl | rfl | rfl | rfl | rfl | rfl | rfl | rfl
  · exact pr_2
  · exact pr_2
  · exact pr_2
  · exact pr_3
  · exact pr_31
  · exact pr_107
  · exact pr_223
  · exact pr_4153
  · exact pr_430751
theorem pc_31757755568855353 : (10 ^ (31757755568855353 - 1) % 31757755568855353 = 1) ∧ ∀ q ∈ [2, 2, 2, 3, 31, 107, 223, 4153, 430751], 10 ^ ((31757755568855353 - 1) / q) % 31757755568855353 ≠ 1 := lucas_c 31757755568855353 10 [2, 2, 2, 3, 31, 107, 223, 4153, 430751] 256 (by decide) pl_31757755568855353 (by decide +kernel) (by decide +kernel) (by decide +kernel) (by decide +kernel)
theorem pr_31757755568855353 : Pr 31757755568855353 := lucas 31757755568855353 10 [2, 2, 2, 3, 31, 107, 223, 4153, 430751] (by decide) pl_31757755568855353 (by decide +kernel) pc_31757755568855353.1 pc_31757755568855353.2
theorem pr_59 : Pr 59 := small 59 (by decide) (by decide +kernel)
theorem pl_487 : ∀ q ∈ [2, 3, 3, 3, 3, 3], Pr q := by
  intro q hq
  simp only [List.mem_cons, List.not_mem_nil, or_false] at hq
  rcases hq with rfl | rfl | rfl | rfl | rfl | rfl
  · exact pr_2
  · exact pr_3
  · exact pr_3
  · exact pr_3
  · exact pr_3
  · exact pr_3
theorem pc_487 : (3 ^ (487 - 1) % 487 = 1) ∧ ∀ q ∈ [2, 3, 3, 3, 3, 3], 3 ^ ((487 - 1) / q) % 487 ≠ 1 := lucas_c 487 3 [2, 3, 3, 3, 3, 3] 256 (by decide) pl_487 (by decide +kernel) (by decide +kernel) (by decide +kernel) (by decide +kernel)
theorem pr_487 : Pr 487 := lucas 487 3 [2, 3, 3, 3, 3, 3] (by decide) pl_487 (by decide +kernel) pc_487.1 pc_487.2
theorem pl_57467 : ∀ q ∈ [2, 59, 487], Pr q := by
  intro q hq
  simp only [List.mem_cons, List.not_mem_nil, or_false] at hq
  rcases hq with rfl | rfl | rfl
  · exact pr_2
  · exact pr_59
  · exact pr_487
theorem pc_57467 : (2 ^ (57467 - 1) % 57467 = 1) ∧ ∀ q ∈ [2, 59, 487], 2 ^ ((57467 - 1) / q) % 57467 ≠ 1 := lucas_c 57467 2 [2, 59, 487] 256 (by decide) pl_57467 (by decide +kernel) (by decide +kernel) (by decide +kernel) (by decide +kernel)
theorem pr_57467 : Pr 57467 := lucas 57467 2 [2, 59, 487] (by decide) pl_57467 (by decide +kernel) pc_57467.1 pc_57467.2
theorem pr_43 : Pr 43 := small 43 (by decide) (by decide +kernel)
theorem pr_23 : Pr 23 := small 23 (by decide) (by decide +kernel)
theorem pl_3727 : ∀ q ∈ [2, 3, 3, 3, 3, 23], Pr q := by
  intro q hq
  simp only [List.mem_cons, List.not_mem_nil, or_false] at hq
  rcases hq with rfl | rfl | rfl | rfl | rfl | rfl
  · exact pr_2
  · exact pr_3
  · exact pr_3
  · exact pr_3
  · exact pr_3
  · exact pr_23
theorem pc_3727 : (3 ^ (3727 - 1) % 3727 = 1) ∧ ∀ q ∈ [2, 3, 3, 3, 3, 23], 3 ^ ((3727 - 1) / q) % 3727 ≠ 1 := lucas_c 3727 3 [2, 3, 3, 3, 3, 23] 256 (by decide) pl_3727 (by decide +kernel) (by decide +kernel) (by decide +kernel) (by decide +kernel)
theorem pr_3727 : Pr 3727 := lucas 3727 3 [2, 3, 3, 3, 3, 23] (by decide) pl_3727 (by decide +kernel) pc_3727.1 pc_3727.2
theorem pl_1923133 : ∀ q ∈ [2, 2, 3, 43, 3727], Pr q := by
  intro q hq
  simp only [List.mem_cons, List.not_mem_nil, or_false] at hq
  rcases hq with rfl | rfl | rfl | rfl | rfl
  · exact pr_2
  · exact pr_2
  · exact pr_3
  · exact pr_43
  · exact pr_3727
theorem pc_1923133 : (2 ^ (1923133 - 1) % 1923133 = 1) ∧ ∀ q ∈ [2, 2, 3, 43, 3727], 2 ^ ((1923133 - 1) / q) % 1923133 ≠ 1 := lucas_c 1923133 2 [2, 2, 3, 43, 3727] 256 (by decide) pl_1923133 (by decide +kernel) (by decide +kernel) (by decide +kernel) (by decide +kernel)
theorem pr_1923133 : Pr 1923133 := lucas 1923133 2 [2, 2, 3, 43, 3727] (by decide) pl_1923133 (by decide +kernel) pc_1923133.1 pc_1923133.2
theorem pl_74058212732561358302231226437062788676166966415465897661863160754340907 : ∀ q ∈ [2, 3, 353, 57467, 132049, 1923133, 31757755568855353, 75445702479781427272750846543864801], Pr q := by
  intro q hq
  simp only [List.mem_cons, List.not_mem_nil, or_false] at hq
  rcases hq with rfl | rfl | rfl | rfl | rfl | rfl | rfl | rfl
  · exact pr_2
  · exact pr_3
  · exact pr_353
  · exact pr_57467
  · exact pr_132049
  · exact pr_1923133
  · exact pr_31757755568855353
  · exact pr_75445702479781427272750846543864801
theorem pc_74058212732561358302231226437062788676166966415465897661863160754340907 : (2 ^ (74058212732561358302231226437062788676166966415465897661863160754340907 - 1) % 74058212732561358302231226437062788676166966415465897661863160754340907 = 1) ∧ ∀ q ∈ [2, 3, 353, 57467, 132049, 1923133, 31757755568855353, 75445702479781427272750846543864801], 2 ^ ((74058212732561358302231226437062788676166966415465897661863160754340907 - 1) / q) % 74058212732561358302231226437062788676166966415465897661863160754340907 ≠ 1 := lucas_c 74058212732561358302231226437062788676166966415465897661863160754340907 2 [2, 3, 353, 57467, 132049, 1923133, 31757755568855353, 75445702479781427272750846543864801] 256 (by decide) pl_74058212732561358302231226437062788676166966415465897661863160754340907 (by decide +kernel) (by decide +kernel) (by decide +kernel) (by decide +kernel)
theorem pr_74058212732561358302231226437062788676166966415465897661863160754340907 : Pr 74058212732561358302231226437062788676166966415465897661863160754340907 := lucas 74058212732561358302231226437062788676166966415465897661863160754340907 2 [2, 3, 353, 57467, 132049, 1923133, 31757755568855353, 75445702479781427272750846543864801] (by decide) pl_74058212732561358302231226437062788676166966415465897661863160754340907 (by decide +kernel) pc_74058212732561358302231226437062788676166966415465897661863160754340907.1 pc_74058212732561358302231226437062788676166966415465897661863160754340907.2
theorem pr_17 : Pr 17 := small 17 (by decide) (by decide +kernel)
theorem pl_239 : ∀ q ∈ [2, 7, 17], Pr q := by
  intro q hq
  simp only [List.mem_cons, List.not_mem_nil, or_false] at hq
  rcases hq with rfl | rfl | rfl
  · exact pr_2
  · exact pr_7
  · exact pr_17
theorem pc_239 : (7 ^ (239 - 1) % 239 = 1) ∧ ∀ q ∈ [2, 7, 17], 7 ^ ((239 - 1) / q) % 239 ≠ 1 := lucas_c 239 7 [2, 7, 17] 256 (by decide) pl_239 (by decide +kernel) (by decide +kernel) (by decide +kernel) (by decide +kernel)
theorem pr_239 : Pr 239 := lucas 239 7 [2, 7, 17] (by decide) pl_239 (by decide +kernel) pc_239.1 pc_239.2
theorem pl_479 : ∀ q ∈ [2, 239], Pr q := by
  intro q hq
  simp only [List.mem_cons, List.not_mem_nil, or_false] at hq
  rcases hq with rfl | rfl
  · exact pr_2
  · exact pr_239
theorem pc_479 : (13 ^ (479 - 1) % 479 = 1) ∧ ∀ q ∈ [2, 239], 13 ^ ((479 - 1) / q) % 479 ≠ 1 := lucas_c 479 13 [2, 239] 256 (by decide) pl_479 (by decide +kernel) (by decide +kernel) (by decide +kernel) (by decide +kernel)
theorem pr_479 : Pr 479 := lucas 479 13 [2, 239] (by decide) pl_479 (by decide +kernel) pc_479.1 pc_479.2
theorem pl_32573 : ∀ q ∈ [2, 2, 17, 479], Pr q := by
  intro q hq
  simp only [List.mem_cons, List.not_mem_nil, or_false] at hq
  rcases hq with rfl | rfl | rfl | rfl
  · exact pr_2
  · exact pr_2
  · exact pr_17
  · exact pr_479
theorem pc_32573 : (2 ^ (32573 - 1) % 32573 = 1) ∧ ∀ q ∈ [2, 2, 17, 479], 2 ^ ((32573 - 1) / q) % 32573 ≠ 1 := lucas_c 32573 2 [2, 2, 17, 479] 256 (by decide) pl_32573 (by decide +kernel) (by decide +kernel) (by decide +kernel) (by decide +kernel)
theorem pr_32573 : Pr 32573 := lucas 32573 2 [2, 2, 17, 479] (by decide) pl_32573 (by decide +kernel) pc_32573.1 pc_32573.2
theorem pl_65147 : ∀ q ∈ [2, 32573], Pr q := by
  intro q hq
  simp only [List.mem_cons, List.not_mem_nil, or_false] at hq
  rcases hq with rfl | rfl
  · exact pr_2
  · exact pr_32573
theorem pc_65147 : (2 ^ (65147 - 1) % 65147 = 1) ∧ ∀ q ∈ [2, 32573], 2 ^ ((65147 - 1) / q) % 65147 ≠ 1 := lucas_c 65147 2 [2, 32573] 256 (by decide) pl_65147 (by decide +kernel) (by decide +kernel) (by decide +kernel) (by decide +kernel)
theorem pr_65147 : Pr 65147 := lucas 65147 2 [2, 32573] (by decide) pl_65147 (by decide +kernel) pc_65147.1 pc_65147.2
theorem pl_57896044618658097711785492504343953926634992332820282019728792003956564819949 : ∀ q ∈ [2, 2, 3, 65147, 74058212732561358302231226437062788676166966415465897661863160754340907], Pr q := by
  intro q hq
  simp only [List.mem_cons, List.not_mem_nil, or_false] at hq
  rcases hq with rfl | rfl | rfl | rfl | rfl
  · exact pr_2
  · exact pr_2
  · exact pr_3
  · exact pr_65147
  · exact pr_74058212732561358302231226437062788676166966415465897661863160754340907
theorem pc_57896044618658097711785492504343953926634992332820282019728792003956564819949 : (2 ^ (57896044618658097711785492504343953926634992332820282019728792003956564819949 - 1) % 57896044618658097711785492504343953926634992332820282019728792003956564819949 = 1) ∧ ∀ q ∈ [2, 2, 3, 65147, 74058212732561358302231226437062788676166966415465897661863160754340907], 2 ^ ((57896044618658097711785492504343953926634992332820282019728792003956564819949 - 1) / q) % 57896044618658097711785492504343953926634992332820282019728792003956564819949 ≠ 1 := lucas_c 57896044618658097711785492504343953926634992332820282019728792003956564819949 2 [2, 2, 3, 65147, 74058212732561358302231226437062788676166966415465897661863160754340907] 256 (by decide) pl_57896044618658097711785492504343953926634992332820282019728792003956564819949 (by decide +kernel) (by decide +kernel) (by decide +kernel) (by decide +kernel)
theorem pr_57896044618658097711785492504343953926634992332820282019728792003956564819949 : Pr 57896044618658097711785492504343953926634992332820282019728792003956564819949 := lucas 57896044618658097711785492504343953926634992332820282019728792003956564819949 2 [2, 2, 3, 65147, 74058212732561358302231226437062788676166966415465897661863160754340907] (by decide) pl_57896044618658097711785492504343953926634992332820282019728792003956564819949 (by decide +kernel) pc_57896044618658097711785492504343953926634992332820282019728792003956564819949.1 pc_57896044618658097711785492504343953926634992332820282019728792003956564819949.2
theorem fermat_P (a : Nat) (ha0 : 0 < a) (ha1 : a < 57896044618658097711785492504343953926634992332820282019728792003956564819949) : a ^ (57896044618658097711785492504343953926634992332820282019728792003956564819949 - 1) % 57896044618658097711785492504343953926634992332820282019728792003956564819949 = 1 := fermat 57896044618658097711785492504343953926634992332820282019728792003956564819949 2 [2, 2, 3, 65147, 74058212732561358302231226437062788676166966415465897661863160754340907] (by decide) pl_57896044618658097711785492504343953926634992332820282019728792003956564819949 (by decide +kernel) pc_57896044618658097711785492504343953926634992332820282019728792003956564819949.1 pc_57896044618658097711785492504343953926634992332820282019728792003956564819949.2 a ha0 ha1


/-! ### Fermat, for rests -/
theorem fermat_E (a : Nat) (ha0 : 0 < a) (ha1 : a < 57896044618658097711785492504343953926634992332820282019728792003956564819949) : a ^ (E0 + 1) % 57896044618658097711785492504343953926634992332820282019728792003956564819949 = 1 := by
  have e : 57896044618658097711785492504343953926634992332820282019728792003956564819949 - 1 = E0 + 1 := by decide +kernel
  have h := fermat_P a ha0 ha1
  rw [e] at h
  exact h
theorem inv_R (v : Int) (h : ¬ R v 0) : R (v ^ E0 * v) 1 := by
  rw [← Int.pow_succ]
  have hm : R v (v % PP) := by unfold R; rw [Int.emod_emod_of_dvd _ (Int.dvd_refl _)]
  refine (hm.pow (E0 + 1)).trans ?_
  have hr := mod_range v
  have h0 : v % PP ≠ 0 := fun e => h (by unfold R; rw [e]; rfl)
  obtain ⟨a, ha⟩ := Int.eq_ofNat_of_zero_le hr.1
  rw [ha] at hr h0 ⊢
  have hf := fermat_E a (by omega) (by unfold PP at hr; omega)
  unfold R
  have e : (1 : Int) % PP = 1 := by decide +kernel
  rw [e]
  unfold PP
  generalize E0 + 1 = k at *
  rw [← Int.natCast_pow]
  have := congrArg (fun n : Nat => (n : Int)) hf
  simpa using this
theorem zero_R (v : Int) (h : R v 0) : R (v ^ E0 * v) 0 := by
  have := (R.refl (v ^ E0)).mul h
  rwa [Int.mul_zero] at this

end Go.Proofs.Ytfklojheogidpaa
