import Derived.Test.YtfklojheogidpaaLaw2
set_option linter.unusedVariables false
set_option linter.unusedSimpArgs false
namespace Go.Proofs.Ytfklojheogidpaa
open Go.RowKit Go.Proofs.YtfklojheogidpaaW.PrintWords Go.Proofs.YtfklojheogidpaaW.PrintLast Go.Proofs.YtfklojheogidpaaW.PrintMore

theorem gset_self {l : List Int} {i : Nat} (h : i < l.length) (x : Int) : (l.set i x).getD i 0 = x := by
  rw [List.getD_eq_getElem?_getD, List.getElem?_set_self h]; rfl
theorem gset_ne {l : List Int} {i j : Nat} (h : i ≠ j) (x : Int) : (l.set i x).getD j 0 = l.getD j 0 := by
  rw [List.getD_eq_getElem?_getD, List.getElem?_set_ne h, ← List.getD_eq_getElem?_getD]
theorem getD_zeros (n i : Nat) : (List.replicate n (0 : Int)).getD i 0 = 0 := by
  rw [List.getD_eq_getElem?_getD, List.getElem?_replicate]
  split <;> rfl
theorem Digs.set {M : Int} {l : List Int} (h : Digs M l) (i : Nat) (x : Int) (hx : 0 ≤ x ∧ x ≤ M) : Digs M (l.set i x) := by
  intro y hy
  rcases List.mem_or_eq_of_mem_set hy with h1 | h1
  · exact h y h1
  · rw [h1]; exact hx
theorem Digs.mono {M N : Int} {l : List Int} (h : Digs M l) (hMN : M ≤ N) : Digs N l := fun x hx => ⟨(h x hx).1, Int.le_trans (h x hx).2 hMN⟩
theorem Digs.zeros (M : Int) (hM : 0 ≤ M) (n : Nat) : Digs M (List.replicate n 0) := fun x hx => by rw [(List.mem_replicate.1 hx).2]; omega

/-! ### Add -/
theorem Add_loop (a b : List Int) (ha : Bytes a) (hb : Bytes b) (la : a.length = 32) (lb : b.length = 32) (n : Nat) : ∀ (i : Nat) (out : List Int), i + n = 32 → out.length = 32 → Digs 510 out → (∀ j, i ≤ j → out.getD j 0 = 0) → bval out = bval (a.take i) + bval (b.take i) →
    Ends (fun k => Ref.redanref05_Add.l0 k a b out i) (D (bval a + bval b)) := by
  induction n with
  | zero =>
    intro i out hi ho hd hz he
    obtain rfl : i = 32 := by omega
    rw [List.take_of_length_le (by omega), List.take_of_length_le (by omega)] at he
    have hm := Mod_ok out 510 (by omega) (by omega) hd (by omega)
    rw [he] at hm
    refine Ends.succ (hm.bind (g := fun _ t => some t) (Ends.here fun _ => rfl)) (fun k => ?_)
    simp only [Ref.redanref05_Add.l0]
    rw [if_neg (by omega)]
  | succ n ih =>
    intro i out hi ho hd hz he
    have h1 := ha.get i
    have h2 := hb.get i
    refine Ends.succ (ih (i + 1) (out.set i (a.getD i 0 + b.getD i 0)) (by omega) (by simp [ho]) (hd.set i _ (by omega)) (fun j hj => by rw [gset_ne (by omega)]; exact hz j (by omega)) ?_) (fun k => ?_)
    · rw [bval_set _ _ _ (by omega), hz i (Nat.le_refl _), he, bval_take_succ a i (by omega), bval_take_succ b i (by omega)]
      grind
    · simp only [Ref.redanref05_Add.l0, rd_nat]
      rw [if_pos (by omega), if_pos (by omega), if_pos (by omega), if_pos (by omega), if_pos (by omega), w64 (n := a.getD i 0 + b.getD i 0) (by omega), w64 (by omega), Int.toNat_natCast, show ((i : Int) + 1) = ((i + 1 : Nat) : Int) by omega]
theorem Add_ok (v u : Int) : Ends (fun k => Ref.redanref05_Add.f k (D v) (D u)) (D (v + u)) := by
  have h := Add_loop (D v) (D u) (D_bytes v) (D_bytes u) (D_length v) (D_length u) 32 0 (List.replicate 32 0) (by omega) (by simp) (Digs.zeros _ (by omega) _) (fun j _ => getD_zeros _ _) (by simp [bval_zeros, bval])
  rw [D_val, D_val, show D (v % PP + u % PP) = D (v + u) from D_eq (by rw [← Int.add_emod])] at h
  refine h.same (fun k => ?_)
  simp only [Ref.redanref05_Add.f]
  rw [if_pos (by omega)]
  rfl

/-! ### Neg -/
def Pl : List Int := 237 :: (List.replicate 30 255 ++ [127])
theorem Pl_val : bval Pl = PP := rfl
theorem Neg_loop (a : List Int) (ha : Bytes a) (la : a.length = 32) (hP : bval a ≤ PP) (n : Nat) : ∀ (i : Nat) (out : List Int) (c : Int), i + n = 32 → out.length = 32 → Bytes out → (c = 0 ∨ c = 1) → (∀ j, i ≤ j → out.getD j 0 = 0) → bval out = bval (Pl.take i) - bval (a.take i) + c * 256 ^ i →
    Ends (fun k => Ref.redanref05_Neg.l0 k a out c i) (D (PP - bval a)) := by
  induction n with
  | zero =>
    intro i out c hi ho hd hc hz he
    obtain rfl : i = 32 := by omega
    rw [List.take_of_length_le (by simp [Pl]), List.take_of_length_le (by omega), Pl_val] at he
    have hlt := hd.lt
    rw [ho] at hlt
    have hc0 : c = 0 := by
      rcases hc with h | h
      · exact h
      · subst h; omega
    subst hc0
    have hm := Mod_ok out 255 (by omega) (by omega) (fun x hx => by have := hd x hx; omega) (by omega)
    rw [he] at hm
    rw [show PP - bval a + 0 * 256 ^ 32 = PP - bval a by omega] at hm
    refine Ends.succ (hm.bind (g := fun _ t => some t) (Ends.here fun _ => rfl)) (fun k => ?_)
    simp only [Ref.redanref05_Neg.l0]
    rw [if_neg (by omega)]
  | succ n ih =>
    intro i out c hi ho hd hc hz he
    have h1 := ha.get i
    obtain ⟨p, hp⟩ : ∃ p, Pl.getD i 0 = p := ⟨_, rfl⟩
    have hpp : p = if i = 31 then 127 else if i = 0 then 237 else 255 := by
      have hall : ∀ i < 32, Pl.getD i 0 = if i = 31 then 127 else if i = 0 then 237 else 255 := by decide
      rw [← hp]; exact hall i (by omega)
    have hpr : 0 ≤ p ∧ p ≤ 255 := by rw [hpp]; split <;> (try split) <;> omega
    obtain ⟨g, hg⟩ : ∃ g, a.getD i 0 = g := ⟨_, rfl⟩
    rw [hg] at h1
    have ht1 := bval_take_succ a i (by omega)
    have ht2 := bval_take_succ Pl i (by simp [Pl]; omega)
    rw [hg] at ht1
    rw [hp] at ht2
    refine Ends.succ (f := fun k => Ref.redanref05_Neg.j1 k a out c i (if i = 0 then 237 else 255)) ?_ (fun k => ?_)
    · by_cases hneg : p - g - c < 0
      · refine Ends.succ (ih (i + 1) (out.set i (p - g - c + 256)) 1 (by omega) (by simp [ho]) ?_ (Or.inr rfl) (fun j hj => by rw [gset_ne (by omega)]; exact hz j (by omega)) ?_) (fun k => ?_)
        · intro x hx
          rcases List.mem_or_eq_of_mem_set hx with h | h
          · exact hd x h
          · rw [h]; rcases hc with h | h <;> omega
        · rw [bval_set _ _ _ (by omega), hz i (Nat.le_refl _), he, ht1, ht2, Int.pow_succ]
          grind
        · simp only [Ref.redanref05_Neg.j1, rd_nat, hg]
          by_cases h31 : i = 31
          · subst h31
            simp only [if_true] at hpp
            subst hpp
            rw [if_pos (by omega), if_pos (by omega), if_pos (by omega), w64 (n := 127 - g) (by omega), w64 (n := 127 - g - c) (by omega), if_pos hneg, if_pos (by omega), w64 (n := 127 - g - c + 256) (by omega), w64 (by omega), Int.toNat_natCast]
            rfl
          · rw [if_neg h31] at hpp
            rw [if_neg (by omega), if_pos (by omega), if_pos (by omega), ← hpp, w64 (n := p - g) (by omega), w64 (n := p - g - c) (by omega), if_pos hneg, if_pos (by omega), w64 (n := p - g - c + 256) (by omega), w64 (by omega), Int.toNat_natCast]
            rfl
      · refine Ends.succ (ih (i + 1) (out.set i (p - g - c)) 0 (by omega) (by simp [ho]) ?_ (Or.inl rfl) (fun j hj => by rw [gset_ne (by omega)]; exact hz j (by omega)) ?_) (fun k => ?_)
        · intro x hx
          rcases List.mem_or_eq_of_mem_set hx with h | h
          · exact hd x h
          · rw [h]; rcases hc with h | h <;> omega
        · rw [bval_set _ _ _ (by omega), hz i (Nat.le_refl _), he, ht1, ht2, Int.pow_succ]
          grind
        · simp only [Ref.redanref05_Neg.j1, rd_nat, hg]
          by_cases h31 : i = 31
          · subst h31
            simp only [if_true] at hpp
            subst hpp
            rw [if_pos (by omega), if_pos (by omega), if_pos (by omega), w64 (n := 127 - g) (by omega), w64 (n := 127 - g - c) (by omega), if_neg hneg, if_pos (by omega), w64 (by omega), Int.toNat_natCast]
            rfl
          · rw [if_neg h31] at hpp
            rw [if_neg (by omega), if_pos (by omega), if_pos (by omega), ← hpp, w64 (n := p - g) (by omega), w64 (n := p - g - c) (by omega), if_neg hneg, if_pos (by omega), w64 (by omega), Int.toNat_natCast]
            rfl
    · simp only [Ref.redanref05_Neg.l0]
      rw [if_pos (by omega)]
      by_cases h0 : i = 0
      · subst h0; rfl
      · rw [if_neg (by omega), if_neg h0]
theorem Neg_ok (v : Int) : Ends (fun k => Ref.redanref05_Neg.f k (D v)) (D (-v)) := by
  have hr := mod_range v
  have h := Neg_loop (D v) (D_bytes v) (D_length v) (by rw [D_val]; omega) 32 0 (List.replicate 32 0) 0 (by omega) (by simp) (Bytes.zeros _) (Or.inl rfl) (fun j _ => getD_zeros _ _) (by simp [bval_zeros, bval])
  rw [D_val, show D (PP - v % PP) = D (-v) from D_eq (by unfold PP; omega)] at h
  refine h.same (fun k => ?_)
  simp only [Ref.redanref05_Neg.f]
  rw [if_pos (by omega)]
  rfl
theorem Sub_ok (v u : Int) : Ends (fun k => Ref.redanref05_Sub.f k (D v) (D u)) (D (v - u)) := by
  have h := (Neg_ok u).bind (g := fun k t => (Ref.redanref05_Add.f k (D v) t).bind fun t199 => some t199) ((Add_ok v (-u)).bind (g := fun _ t => some t) (Ends.here fun _ => rfl))
  exact h.same (fun k => rfl)

/-! ### Small, Encode, Decode -/
theorem Small_ok (n : Int) (h0 : 0 ≤ n) (h1 : n ≤ 1099511627776) : Ends (fun k => Ref.redanref05_Small.f k n) (D n) := by
  have h := Mod_ok [n] 1099511627776 (by omega) (by omega) (fun x hx => by simp at hx; omega) (by simp)
  simp only [bval, Int.mul_zero, Int.add_zero] at h
  exact (h.bind (g := fun _ t => some t) (Ends.here fun _ => rfl)).same (fun k => rfl)
theorem Encode_loop (a : List Int) (ha : Bytes a) (la : a.length = 32) (n : Nat) : ∀ i : Nat, i + n = 32 → Ends (fun k => Ref.redanref05_Encode.l0 k a (a.take i) i) a := by
  induction n with
  | zero =>
    intro i hi
    obtain rfl : i = 32 := by omega
    refine Ends.now (fun k => ?_)
    simp only [Ref.redanref05_Encode.l0]
    rw [if_neg (by omega), List.take_of_length_le (by omega)]
  | succ n ih =>
    intro i hi
    refine Ends.succ (ih (i + 1) (by omega)) (fun k => ?_)
    have h1 := ha.get i
    simp only [Ref.redanref05_Encode.l0, rd_nat]
    rw [if_pos (by omega), if_pos (by omega), if_pos (by omega), if_pos (by simp; omega), w64 (by omega), Int.emod_eq_of_lt h1.1 h1.2, List.take_succ_eq_append_getElem (by omega)]
    congr 3
    rw [List.getD_eq_getElem?_getD, List.getElem?_eq_getElem (by omega)]; rfl
theorem Encode_ok (v : Int) : Ends (fun k => Ref.redanref05_Encode.f k (D v)) (D v) := Encode_loop (D v) (D_bytes v) (D_length v) 32 0 (by omega)
theorem decV_range (l : List Int) : 0 ≤ decV l ∧ decV l < HH := by unfold decV HH; omega
theorem Decode_end (l : List Int) (hl : ∀ x ∈ l, Byte x) : Ends (fun k => (Ref.redanref05_Mod.f k ((pad32 l).set 31 (Int.tmod (rd (pad32 l) 31) 128))).bind fun t => some t) (D (decV l)) := by
  have hb : Bytes (pad32 l) := pad32_byte hl
  have hlen := pad32_length l
  have hg := hb.get 31
  rw [rd_31, Int.tmod_eq_emod_of_nonneg hg.1]
  have hm := Mod_ok ((pad32 l).set 31 ((pad32 l).getD 31 0 % 128)) 255 (by omega) (by omega) (Digs.set (fun x hx => by have := hb x hx; omega) _ _ (by omega)) (by simp [hlen])
  have hv : bval ((pad32 l).set 31 ((pad32 l).getD 31 0 % 128)) = decV l := by
    rw [bval_set _ _ _ (by omega)]
    have h1 := bval_take_succ (pad32 l) 31 (by omega)
    rw [List.take_of_length_le (by omega)] at h1
    have hlt := (hb.take 31).lt
    have hn := (hb.take 31).nonneg
    have hP : (256 : Int) ^ 31 = 452312848583266388373324160190187140051835877600158453279131187530910662656 := rfl
    rw [List.length_take, Nat.min_eq_left (by omega), hP] at hlt
    rw [hP] at h1 ⊢
    unfold decV HH
    omega
  rw [hv] at hm
  exact hm.bind (g := fun _ t => some t) (Ends.here fun _ => rfl)
theorem Decode_loop (l : List Int) (hl : ∀ x ∈ l, Byte x) (n : Nat) : ∀ i : Nat, i + n = 32 → i ≤ l.length → Ends (fun k => Ref.redanref05_Decode.l0 k l (l.take i ++ List.replicate (32 - i) 0) i) (D (decV l)) := by
  induction n with
  | zero =>
    intro i hi hil
    obtain rfl : i = 32 := by omega
    have hp : l.take 32 ++ List.replicate (32 - 32) 0 = pad32 l := by
      unfold pad32
      rw [List.take_append, show 32 - l.length = 0 by omega]
      simp
    rw [hp]
    refine Ends.succ (Decode_end l hl) (fun k => ?_)
    simp only [Ref.redanref05_Decode.l0]
    rw [if_neg (by omega), if_pos (by rw [pad32_length]; omega)]
    rfl
  | succ n ih =>
    intro i hi hil
    rcases Nat.lt_or_ge i l.length with hlt | hge
    · refine Ends.succ (ih (i + 1) (by omega) (by omega)) (fun k => ?_)
      have hb : Bytes l := hl
      have hg := hb.get i
      simp only [Ref.redanref05_Decode.l0, rd_nat]
      rw [if_pos (by omega), if_pos (by omega), if_pos (by omega), if_pos (by simp; omega), w64 (n := l.getD i 0) (by omega), w64 (by omega), Int.toNat_natCast, show ((i : Int) + 1) = ((i + 1 : Nat) : Int) by omega]
      congr 1
      rw [show 32 - i = (32 - (i + 1)) + 1 by omega, List.replicate_succ, List.set_append_right _ _ (by simp; omega), List.length_take, Nat.min_eq_left (by omega), Nat.sub_self, List.set_cons_zero]
      rw [List.take_succ_eq_append_getElem (by omega), List.append_assoc, List.singleton_append]
      congr 2
      rw [List.getD_eq_getElem?_getD, List.getElem?_eq_getElem (by omega)]; rfl
    · have hp : l.take i ++ List.replicate (32 - i) 0 = pad32 l := by
        unfold pad32
        rw [List.take_append, List.take_of_length_le hge, List.take_of_length_le (by omega), List.take_replicate]
        congr 2
        omega
      rw [hp]
      refine Ends.succ (Decode_end l hl) (fun k => ?_)
      simp only [Ref.redanref05_Decode.l0]
      rw [if_pos (by omega), if_neg (by omega), if_pos (by rw [pad32_length]; omega)]
      rfl
theorem Decode_ok (l : List Int) (hl : ∀ x ∈ l, Byte x) : Ends (fun k => Ref.redanref05_Decode.f k l) (D (decV l)) := by
  refine (Decode_loop l hl 32 0 (by omega) (by omega)).same (fun k => ?_)
  simp only [Ref.redanref05_Decode.f]
  rw [if_pos (by omega)]
  rfl

/-! ### Mul -/
theorem Mul_inner (a b : List Int) (ha : Bytes a) (hb : Bytes b) (la : a.length = 32) (lb : b.length = 32) (i : Nat) (hi : i < 32) {r : List Int} (V : Int)
    (hr : ∀ out : List Int, out.length = 64 → Digs (65025 * (32 * (i + 1))) out → bval out = V + a.getD i 0 * 256 ^ i * bval b → Ends (fun k => Ref.redanref05_Mul.l0 k a b out ((i + 1 : Nat) : Int)) r) (n : Nat) :
    ∀ (j : Nat) (out : List Int), j + n = 32 → out.length = 64 → Digs (65025 * (32 * i + j)) out → bval out = V + a.getD i 0 * 256 ^ i * bval (b.take j) → Ends (fun k => Ref.redanref05_Mul.l1 k a b out i j) r := by
  induction n with
  | zero =>
    intro j out hj ho hd he
    obtain rfl : j = 32 := by omega
    rw [List.take_of_length_le (by omega)] at he
    refine Ends.succ (hr out ho (hd.mono (by omega)) he) (fun k => ?_)
    simp only [Ref.redanref05_Mul.l1]
    rw [if_neg (by omega), w64 (by omega)]
    rfl
  | succ n ih =>
    intro j out hj ho hd he
    have h1 := ha.get i
    have h2 := hb.get j
    have h3 := hd.get (by omega) (i + j)
    have hm0 : 0 ≤ a.getD i 0 * b.getD j 0 := Int.mul_nonneg h1.1 h2.1
    have hm1 : a.getD i 0 * b.getD j 0 ≤ 255 * 255 := Int.mul_le_mul (by omega) (by omega) h2.1 (by omega)
    have ht := bval_take_succ b j (by omega)
    have hset := bval_set out (i + j) (out.getD (i + j) 0 + a.getD i 0 * b.getD j 0) (by omega)
    generalize hgx : a.getD i 0 = x at *
    generalize hgy : b.getD j 0 = y at *
    refine Ends.succ (ih (j + 1) (out.set (i + j) (out.getD (i + j) 0 + x * y)) (by omega) (by simp [ho]) ((hd.mono (by omega)).set _ _ (by omega)) ?_) (fun k => ?_)
    · rw [hset, he, ht, Int.pow_add]
      grind
    · simp only [Ref.redanref05_Mul.l1, rd_nat]
      rw [w64 (n := (i : Int) + j) (by omega), show ((i : Int) + j) = ((i + j : Nat) : Int) by omega]
      simp only [rd_nat]
      rw [if_pos (by omega), if_pos (by omega), if_pos (by omega), if_pos (by omega), if_pos (by omega), if_pos (by omega), if_pos (by omega), Int.toNat_natCast]
      rw [hgx, hgy, w64 (n := x * y) (by omega), w64 (n := out.getD (i + j) 0 + x * y) (by omega), w64 (by omega)]
      rfl
theorem Mul_loop (a b : List Int) (ha : Bytes a) (hb : Bytes b) (la : a.length = 32) (lb : b.length = 32) (n : Nat) :
    ∀ (i : Nat) (out : List Int), i + n = 32 → out.length = 64 → Digs (65025 * (32 * i)) out → bval out = bval (a.take i) * bval b → Ends (fun k => Ref.redanref05_Mul.l0 k a b out i) (D (bval a * bval b)) := by
  induction n with
  | zero =>
    intro i out hi ho hd he
    obtain rfl : i = 32 := by omega
    rw [List.take_of_length_le (by omega)] at he
    have hm := Mod_ok out (65025 * (32 * 32)) (by omega) (by omega) (hd.mono (by omega)) (by omega)
    rw [he] at hm
    refine Ends.succ (hm.bind (g := fun _ t => some t) (Ends.here fun _ => rfl)) (fun k => ?_)
    simp only [Ref.redanref05_Mul.l0]
    rw [if_neg (by omega)]
  | succ n ih =>
    intro i out hi ho hd he
    refine Ends.succ (f := fun k => Ref.redanref05_Mul.l1 k a b out i 0) ?_ (fun k => ?_)
    · refine Mul_inner a b ha hb la lb i (by omega) (bval out) (fun out2 h1 h2 h3 => ih (i + 1) out2 (by omega) h1 (h2.mono (by omega)) ?_) 32 0 out (by omega) ho (hd.mono (by omega)) (by simp [bval])
      rw [h3, he, bval_take_succ a i (by omega)]
      grind
    · simp only [Ref.redanref05_Mul.l0]
      rw [if_pos (by omega)]
theorem Mul_ok (v u : Int) : Ends (fun k => Ref.redanref05_Mul.f k (D v) (D u)) (D (v * u)) := by
  have h := Mul_loop (D v) (D u) (D_bytes v) (D_bytes u) (D_length v) (D_length u) 32 0 (List.replicate 64 0) (by omega) (by simp) (Digs.zeros _ (by omega) _) (by simp [bval_zeros, bval])
  rw [D_val, D_val, show D (v % PP * (u % PP)) = D (v * u) from D_eq (by rw [← Int.mul_emod])] at h
  refine h.same (fun k => ?_)
  simp only [Ref.redanref05_Mul.f]
  rw [if_pos (by omega)]
  rfl

/-! ### Power -/
def E0 : Nat := 57896044618658097711785492504343953926634992332820282019728792003956564819947
theorem E0_bits : ∀ i < 255, (E0 / 2 ^ i) % 2 = if i = 2 ∨ i = 4 then 0 else 1 := by decide +kernel
theorem Power_loop (v : Int) (n : Nat) : n ≤ 255 → Ends (fun k => Ref.redanref05_Power.l0 k (D v) (D (v ^ (E0 / 2 ^ n))) ((n : Int) - 1)) (D (v ^ E0)) := by
  induction n with
  | zero =>
    intro _
    refine Ends.now (fun k => ?_)
    simp only [Ref.redanref05_Power.l0]
    rw [if_neg (by omega)]
    simp
  | succ n ih =>
    intro hn
    have hbit := E0_bits n (by omega)
    have hhalf : E0 / 2 ^ (n + 1) = E0 / 2 ^ n / 2 := by rw [Nat.pow_succ, Nat.div_div_eq_div_mul]
    have hih := ih (by omega)
    have hsq := Mul_ok (v ^ (E0 / 2 ^ (n + 1))) (v ^ (E0 / 2 ^ (n + 1)))
    rw [← Int.pow_add] at hsq
    generalize hq : E0 / 2 ^ (n + 1) = q at *
    generalize hm : E0 / 2 ^ n = m at *
    have hx : ∀ k, Ref.redanref05_Power.l0 (k + 1) (D v) (D (v ^ q)) (((n + 1 : Nat) : Int) - 1) = (Ref.redanref05_Mul.f k (D (v ^ q)) (D (v ^ q))).bind fun t221 => if n = 2 ∨ n = 4 then Ref.redanref05_Power.l0 k (D v) t221 ((n : Int) - 1) else (Ref.redanref05_Mul.f k t221 (D v)).bind fun t224 => Ref.redanref05_Power.l0 k (D v) t224 ((n : Int) - 1) := fun k => by
      simp only [Ref.redanref05_Power.l0]
      rw [if_pos (by omega), show (((n + 1 : Nat) : Int) - 1) = (n : Int) by omega, w64 (by omega)]
      congr 1
      funext t
      by_cases h2 : n = 2
      · rw [if_pos (by omega), if_pos (Or.inl h2)]
      · by_cases h4 : n = 4
        · rw [if_neg (by omega), if_pos (by omega), if_pos (Or.inr h4)]
        · rw [if_neg (by omega), if_neg (by omega), if_neg (by omega)]
    refine Ends.succ (f := fun k => (Ref.redanref05_Mul.f k (D (v ^ q)) (D (v ^ q))).bind fun t221 => if n = 2 ∨ n = 4 then Ref.redanref05_Power.l0 k (D v) t221 ((n : Int) - 1) else (Ref.redanref05_Mul.f k t221 (D v)).bind fun t224 => Ref.redanref05_Power.l0 k (D v) t224 ((n : Int) - 1)) ?_ hx
    refine hsq.bind (g := fun k t221 => if n = 2 ∨ n = 4 then Ref.redanref05_Power.l0 k (D v) t221 ((n : Int) - 1) else (Ref.redanref05_Mul.f k t221 (D v)).bind fun t224 => Ref.redanref05_Power.l0 k (D v) t224 ((n : Int) - 1)) ?_
    by_cases h : n = 2 ∨ n = 4
    · rw [if_pos h] at hbit
      simp only [if_pos h]
      rw [show q + q = m by omega]
      exact hih
    · rw [if_neg h] at hbit
      simp only [if_neg h]
      refine (Mul_ok (v ^ (q + q)) v).bind (g := fun k t224 => Ref.redanref05_Power.l0 k (D v) t224 ((n : Int) - 1)) ?_
      rw [← Int.pow_succ, show (q + q).succ = m by omega]
      exact hih
theorem Power_ok (v : Int) : Ends (fun k => Ref.redanref05_Power.f k (D v)) (D (v ^ E0)) := by
  have h := Power_loop v 255 (by omega)
  rw [show E0 / 2 ^ 255 = 0 by decide +kernel, Int.pow_zero] at h
  exact (Small_ok 1 (by omega) (by omega)).bind (g := fun k t => Ref.redanref05_Power.l0 k (D v) t 254) h

end Go.Proofs.Ytfklojheogidpaa
