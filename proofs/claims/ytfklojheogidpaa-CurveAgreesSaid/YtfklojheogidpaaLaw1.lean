import Derived.Test.YtfklojheogidpaaDec
set_option linter.unusedVariables false
set_option linter.unusedSimpArgs false
namespace Go.Proofs.Ytfklojheogidpaa
open Go.RowKit Go.Proofs.YtfklojheogidpaaW.PrintWords Go.Proofs.YtfklojheogidpaaW.PrintLast Go.Proofs.YtfklojheogidpaaW.PrintMore

/-! ### What the reference's functions answer, with fuel enough -/
def Ends {α : Type} (f : Nat → Option α) (r : α) : Prop := ∃ k0, ∀ k, k0 ≤ k → f k = some r
theorem Ends.here {α : Type} {f : Nat → Option α} {r : α} (h : ∀ k, f k = some r) : Ends f r := ⟨0, fun k _ => h k⟩
theorem Ends.succ {α : Type} {f g : Nat → Option α} {r : α} (h : Ends f r) (e : ∀ k, g (k + 1) = f k) : Ends g r := by
  obtain ⟨k0, h⟩ := h
  refine ⟨k0 + 1, fun k hk => ?_⟩
  obtain ⟨k, rfl⟩ : ∃ j, k = j + 1 := ⟨k - 1, by omega⟩
  rw [e, h k (by omega)]
theorem Ends.now {α : Type} {g : Nat → Option α} {r : α} (e : ∀ k, g (k + 1) = some r) : Ends g r := (Ends.here (f := fun _ => some r) (fun _ => rfl)).succ e
theorem Ends.same {α : Type} {f g : Nat → Option α} {r : α} (h : Ends f r) (e : ∀ k, g k = f k) : Ends g r := by
  obtain ⟨k0, h⟩ := h
  exact ⟨k0, fun k hk => by rw [e, h k hk]⟩
theorem Ends.bind {α β : Type} {f : Nat → Option α} {g : Nat → α → Option β} {a : α} {b : β} (h : Ends f a) (h2 : Ends (fun k => g k a) b) : Ends (fun k => (f k).bind (g k)) b := by
  obtain ⟨k0, h⟩ := h
  obtain ⟨k1, h2⟩ := h2
  refine ⟨max k0 k1, fun k hk => ?_⟩
  show (f k).bind (g k) = some b
  rw [h k (by omega), Option.bind_some]
  exact h2 k (by omega)
theorem Ends.and {α β : Type} {f : Nat → Option α} {g : Nat → Option β} {a : α} {b : β} (h : Ends f a) (h2 : Ends g b) : ∃ k, f k = some a ∧ g k = some b := by
  obtain ⟨k0, h⟩ := h
  obtain ⟨k1, h2⟩ := h2
  exact ⟨max k0 k1, h _ (by omega), h2 _ (by omega)⟩

/-! ### Digits -/
def Bytes (l : List Int) : Prop := ∀ x ∈ l, 0 ≤ x ∧ x < 256
theorem Bytes.get {l : List Int} (h : Bytes l) (i : Nat) : 0 ≤ l.getD i 0 ∧ l.getD i 0 < 256 := by
  rw [List.getD_eq_getElem?_getD]
  rcases Nat.lt_or_ge i l.length with hi | hi
  · rw [List.getElem?_eq_getElem hi]; exact h _ (List.getElem_mem hi)
  · rw [List.getElem?_eq_none hi]; simp
theorem Bytes.nonneg {l : List Int} (h : Bytes l) : 0 ≤ bval l := (bval_range l h).1
theorem Bytes.lt {l : List Int} (h : Bytes l) : bval l < 256 ^ l.length := (bval_range l h).2
theorem Bytes.take {l : List Int} (h : Bytes l) (n : Nat) : Bytes (l.take n) := fun x hx => h x (List.mem_of_mem_take hx)
theorem Bytes.drop {l : List Int} (h : Bytes l) (n : Nat) : Bytes (l.drop n) := fun x hx => h x (List.mem_of_mem_drop hx)
theorem Bytes.append {l m : List Int} (h : Bytes l) (h2 : Bytes m) : Bytes (l ++ m) := fun x hx => (List.mem_append.1 hx).elim (h x) (h2 x)
theorem Bytes.zeros (n : Nat) : Bytes (List.replicate n 0) := fun x hx => by rw [(List.mem_replicate.1 hx).2]; omega
theorem bval_zeros (n : Nat) : bval (List.replicate n 0) = 0 := by
  induction n with
  | zero => rfl
  | succ n ih => simp [List.replicate_succ, bval, ih]
theorem bval_set (l : List Int) : ∀ (i : Nat) (x : Int), i < l.length → bval (l.set i x) = bval l + (x - l.getD i 0) * 256 ^ i := by
  induction l with
  | nil => intro i x h; simp at h
  | cons y l ih =>
    intro i x h
    cases i with
    | zero => simp only [List.set_cons_zero, bval, List.getD_cons_zero, Int.pow_zero]; omega
    | succ i =>
      have := ih i x (by simpa using h)
      simp only [List.set_cons_succ, bval, List.getD_cons_succ, this, Int.pow_succ]
      grind
theorem bval_take_succ (l : List Int) (i : Nat) (h : i < l.length) : bval (l.take (i + 1)) = bval (l.take i) + l.getD i 0 * 256 ^ i := by
  rw [List.take_succ_eq_append_getElem h, bval_append, List.length_take, Nat.min_eq_left (by omega)]
  simp only [bval]
  rw [List.getD_eq_getElem?_getD, List.getElem?_eq_getElem h]
  simp only [Option.getD_some]
  grind
theorem bytesN_bval (l : List Int) (h : Bytes l) : bytesN l.length (bval l) = l := by
  induction l with
  | nil => rfl
  | cons x l ih =>
    have hx := h x (by simp)
    have hl := ih (fun y hy => h y (by simp [hy]))
    have h0 := Bytes.nonneg (l := l) (fun y hy => h y (by simp [hy]))
    simp only [List.length_cons, bytesN, bval]
    rw [show (x + 256 * bval l) % 256 = x by omega, show (x + 256 * bval l) / 256 = bval l by omega, hl]
theorem bval_bytesN (n : Nat) : ∀ v : Int, 0 ≤ v → v < 256 ^ n → bval (bytesN n v) = v := by
  induction n with
  | zero => intro v h0 h1; simp only [Int.pow_zero] at h1; simp only [bytesN, bval]; omega
  | succ n ih =>
    intro v h0 h1
    rw [Int.pow_succ] at h1
    simp only [bytesN, bval]
    rw [ih (v / 256) (by omega) (by omega)]
    omega
theorem Bytes.of_bytesN (n : Nat) (v : Int) : Bytes (bytesN n v) := bytesN_range n v
/-- The digits of a number's rest. -/
def D (v : Int) : List Int := bytesN 32 (v % PP)
theorem D_length (v : Int) : (D v).length = 32 := bytesN_length _ _
theorem D_bytes (v : Int) : Bytes (D v) := Bytes.of_bytesN _ _
theorem mod_range (v : Int) : 0 ≤ v % PP ∧ v % PP < PP := by unfold PP; omega
theorem D_val (v : Int) : bval (D v) = v % PP := bval_bytesN 32 _ (mod_range v).1 (by have := (mod_range v).2; unfold PP at this; rw [show (256 : Int) ^ 32 = 115792089237316195423570985008687907853269984665640564039457584007913129639936 from rfl]; unfold PP; omega)
theorem D_eq {u v : Int} (h : u % PP = v % PP) : D u = D v := by unfold D; rw [h]
theorem D_mod (v : Int) : D (v % PP) = D v := D_eq (Int.emod_emod_of_dvd _ (Int.dvd_refl _))
theorem D_of {l : List Int} (hl : l.length = 32) (hb : Bytes l) (h : bval l < PP) : l = D (bval l) := by
  unfold D
  rw [Int.emod_eq_of_lt hb.nonneg h, ← hl, bytesN_bval l hb]
theorem w64 {n : Int} (h : -9223372036854775808 ≤ n ∧ n ≤ 9223372036854775807) : wrap64 n = n := by unfold wrap64; omega
theorem pow_pos' (i : Nat) : (0 : Int) < 256 ^ i := Int.pow_pos (by omega)

/-! ### carry -/
def Digs (M : Int) (l : List Int) : Prop := ∀ x ∈ l, 0 ≤ x ∧ x ≤ M
theorem Digs.get {M : Int} (hM : 0 ≤ M) {l : List Int} (h : Digs M l) (i : Nat) : 0 ≤ l.getD i 0 ∧ l.getD i 0 ≤ M := by
  rw [List.getD_eq_getElem?_getD]
  rcases Nat.lt_or_ge i l.length with hi | hi
  · rw [List.getElem?_eq_getElem hi]; exact h _ (List.getElem_mem hi)
  · rw [List.getElem?_eq_none hi]; simpa using hM
theorem tdm (c : Int) (h : 0 ≤ c) : Int.tdiv c 256 = c / 256 ∧ Int.tmod c 256 = c % 256 := ⟨Int.tdiv_eq_ediv_of_nonneg h, Int.tmod_eq_emod_of_nonneg h⟩
def CarryOk (l0 acc : List Int) (N : Int) (r : List Int) : Prop := Bytes r ∧ bval r = N ∧ l0.length ≤ r.length ∧ acc.length ≤ r.length ∧ (r.length ≤ l0.length ∨ r.length ≤ acc.length ∨ 256 ^ (r.length - 1) ≤ bval r)

theorem carry_tail (x0 : List Int) (hx : x0.length ≤ 200) (m : Nat) : ∀ (acc : List Int) (c : Int), Bytes acc → x0.length ≤ acc.length → acc.length + m ≤ 1000 → 0 ≤ c → c < 256 ^ m → c ≤ 281474976710656 →
    ∃ r, Ends (fun k => Ref.redanref05_carry.l0 k x0 acc c acc.length) r ∧ CarryOk x0 acc (bval acc + 256 ^ acc.length * c) r := by
  induction m with
  | zero =>
    intro acc c hb hl hm h0 h1 h2
    simp only [Int.pow_zero] at h1
    obtain rfl : c = 0 := by omega
    refine ⟨acc, ?_, hb, by omega, hl, Nat.le_refl _, Or.inr (Or.inl (Nat.le_refl _))⟩
    refine Ends.succ (f := fun k => Ref.redanref05_carry.j1 k x0 acc 0 acc.length false) ?_ (fun k => ?_)
    · exact Ends.now (fun k => by simp [Ref.redanref05_carry.j1])
    · simp only [Ref.redanref05_carry.l0]
      rw [if_neg (by omega)]
      rfl
  | succ m ih =>
    intro acc c hb hl hm h0 h1 h2
    rcases Int.lt_or_eq_of_le h0 with hc | rfl
    · have ht := tdm c h0
      rw [Int.pow_succ] at h1
      obtain ⟨r, hr, k1, k2, k3, k4, k5⟩ := ih (acc ++ [c % 256]) (c / 256) (hb.append (fun x hx => by simp at hx; omega)) (by simp; omega) (by simp; omega) (by omega) (by omega) (by omega)
      rw [bval_append, List.length_append] at k2
      simp only [bval, List.length_singleton, Int.pow_succ] at k2
      refine ⟨r, ?_, k1, ?_, k3, by simp at k4; omega, ?_⟩
      rotate_left
      · rw [k2]
        have : c = c % 256 + 256 * (c / 256) := by omega
        grind
      rotate_left
      · refine Ends.succ (f := fun k => Ref.redanref05_carry.j1 k x0 acc c acc.length true) ?_ (fun k => ?_)
        · refine Ends.succ hr (fun k => ?_)
          simp only [Ref.redanref05_carry.j1, if_true]
          rw [if_neg (by omega), if_pos (by omega), ht.1, ht.2, w64 (by omega), w64 (by omega)]
          simp
        · simp only [Ref.redanref05_carry.l0]
          rw [if_neg (by omega), show decide (c > 0) = true by simpa using hc]
      · rcases k5 with k5 | k5 | k5
        · exact Or.inl k5
        · refine Or.inr (Or.inr ?_)
          simp at k5 k4
          have e : r.length = acc.length + 1 := by omega
          rw [e, k2, Nat.add_sub_cancel]
          have := hb.nonneg
          have hp := pow_pos' acc.length
          have h5 : c = c % 256 + 256 * (c / 256) := by omega
          have h6 : (256 : Int) ^ acc.length * 1 ≤ 256 ^ acc.length * c := Int.mul_le_mul_of_nonneg_left (by omega) (by omega)
          have h7 : bval acc + 256 ^ acc.length * (c % 256 + 256 * 0) + 256 ^ acc.length * 256 * (c / 256) = bval acc + 256 ^ acc.length * c := by
            clear ih hr k5 k4 k3 k2 h1 hp h6 this
            grind
          rw [h7]
          omega
        · exact Or.inr (Or.inr k5)
    · refine ⟨acc, ?_, hb, by omega, hl, Nat.le_refl _, Or.inr (Or.inl (Nat.le_refl _))⟩
      refine Ends.succ (f := fun k => Ref.redanref05_carry.j1 k x0 acc 0 acc.length false) ?_ (fun k => ?_)
      · exact Ends.now (fun k => by simp [Ref.redanref05_carry.j1])
      · simp only [Ref.redanref05_carry.l0]
        rw [if_neg (by omega)]
        rfl

theorem carry_main (x0 : List Int) (M : Int) (hM0 : 0 ≤ M) (hM : M ≤ 1099511627776) (hd : Digs M x0) (hx : x0.length ≤ 200) (n : Nat) : ∀ (acc : List Int) (c : Int), Bytes acc → acc.length + n = x0.length → 0 ≤ c → c ≤ M →
    ∃ r, Ends (fun k => Ref.redanref05_carry.l0 k x0 acc c acc.length) r ∧ CarryOk x0 acc (bval acc + 256 ^ acc.length * (c + bval (x0.drop acc.length))) r := by
  induction n with
  | zero =>
    intro acc c hb hl h0 h1
    obtain ⟨r, hr, k⟩ := carry_tail x0 hx 6 acc c hb (by omega) (by omega) h0 (by omega) (by omega)
    refine ⟨r, hr, ?_⟩
    rw [List.drop_eq_nil_of_le (by omega)]
    simp only [bval, Int.add_zero]
    exact k
  | succ n ih =>
    intro acc c hb hl h0 h1
    have hg := hd.get hM0 acc.length
    have hlt : acc.length < x0.length := by omega
    have hdr : x0.drop acc.length = x0.getD acc.length 0 :: x0.drop (acc.length + 1) := by
      rw [List.drop_eq_getElem_cons hlt, List.getD_eq_getElem?_getD, List.getElem?_eq_getElem hlt]; rfl
    obtain ⟨g, hgg⟩ : ∃ g, x0.getD acc.length 0 = g := ⟨_, rfl⟩
    rw [hgg] at hg hdr
    have ht := tdm (c + g) (by omega)
    obtain ⟨r, hr, k1, k2, k3, k4, k5⟩ := ih (acc ++ [(c + g) % 256]) ((c + g) / 256) (hb.append (fun x hx => by simp at hx; omega)) (by simp; omega) (by omega) (by omega)
    rw [bval_append, List.length_append] at k2
    simp only [bval, List.length_singleton, Int.pow_succ] at k2
    refine ⟨r, ?_, k1, ?_, k3, by simp at k4; omega, ?_⟩
    · refine Ends.succ (f := fun k => Ref.redanref05_carry.j1 k x0 acc c acc.length true) ?_ (fun k => ?_)
      · refine Ends.succ hr (fun k => ?_)
        simp only [Ref.redanref05_carry.j1, if_true, rd, Int.toNat_natCast]
        rw [if_pos (by omega), if_pos (by omega), if_pos (by omega), hgg, w64 (n := c + g) (by omega), ht.1, ht.2, w64 (by omega), w64 (by omega)]
        simp
      · simp only [Ref.redanref05_carry.l0]
        rw [if_pos (by omega)]
    · rw [k2, hdr]
      simp only [bval]
      have h5 : c + g = (c + g) % 256 + 256 * ((c + g) / 256) := by omega
      grind
    · rcases k5 with k5 | k5 | k5
      · exact Or.inl k5
      · simp at k5
        exact Or.inl (by omega)
      · exact Or.inr (Or.inr k5)

theorem carry_ok (x0 : List Int) (M : Int) (hM0 : 0 ≤ M) (hM : M ≤ 1099511627776) (hd : Digs M x0) (hx : x0.length ≤ 200) :
    ∃ r, Ends (fun k => Ref.redanref05_carry.f k x0) r ∧ Bytes r ∧ bval r = bval x0 ∧ x0.length ≤ r.length ∧ (r.length ≤ x0.length ∨ 256 ^ (r.length - 1) ≤ bval x0) := by
  obtain ⟨r, hr, k1, k2, k3, k4, k5⟩ := carry_main x0 M hM0 hM hd hx x0.length [] 0 (fun x h => by cases h) (by simp) (by omega) hM0
  simp only [List.length_nil, Int.pow_zero, List.drop_zero, bval] at k2
  have e : bval r = bval x0 := by omega
  refine ⟨r, hr, k1, e, k3, ?_⟩
  rcases k5 with k5 | k5 | k5
  · exact Or.inl k5
  · simp at k5; exact Or.inl (by simp [k5])
  · exact Or.inr (by rw [← e]; exact k5)

end Go.Proofs.Ytfklojheogidpaa
