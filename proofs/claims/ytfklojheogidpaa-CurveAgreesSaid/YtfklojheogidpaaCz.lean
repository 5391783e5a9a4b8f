import Derived.Test.YtfklojheogidpaaCy
set_option linter.unusedVariables false
set_option linter.unusedSimpArgs false
namespace Go.Proofs.Ytfklojheogidpaa
open Go.RowKit Go.Proofs.YtfklojheogidpaaW.PrintWords Go.Proofs.YtfklojheogidpaaW.PrintLast Go.Proofs.YtfklojheogidpaaW.PrintMore
/-! ### Points of small order -/
theorem dvd_R {a b : Int} : R a b ↔ PP ∣ a - b := by
  unfold R
  exact ⟨fun h => Int.dvd_of_emod_eq_zero (Int.emod_eq_emod_iff_emod_sub_eq_zero.1 h), fun h => Int.emod_eq_emod_iff_emod_sub_eq_zero.2 (Int.emod_eq_zero_of_dvd h)⟩
def Dv (a : Int) : Prop := PP ∣ a
theorem Dv.mod {a b : Int} (h : Dv a) (e : b % PP = a % PP) : Dv b := by
  have h1 : PP ∣ a := h
  have := (dvd_R (a := b) (b := a)).1 e
  have h2 := Int.dvd_add this h1
  rwa [Int.sub_add_cancel] at h2
theorem Dv.rest {a : Int} (h : Dv a) : Dv (a % PP) := h.mod (Int.emod_emod_of_dvd _ (Int.dvd_refl _))
theorem Dv.mul {a : Int} (h : Dv a) (b : Int) : Dv (b * a) := Int.dvd_trans h (Int.dvd_mul_left b a)
theorem Dv.eq {a b : Int} (h : Dv a) (e : b = a) : Dv b := e ▸ h
theorem Dv.add {a b : Int} (h : Dv a) (k : Dv b) : Dv (a + b) := Int.dvd_add h k
def Cls (x z : Int) : Prop := Dv x ∨ Dv z ∨ Dv (x * x - z * z)
theorem sq_rest (a b : Int) : (a % PP * (a % PP) - b % PP * (b % PP)) % PP = (a * a - b * b) % PP := by
  rw [Int.sub_emod, ← Int.mul_emod, ← Int.mul_emod, ← Int.sub_emod]
theorem step_cls (u : Int) (hu : Dv u ∨ Dv (u * u - 1)) (p : St) (h1 : Cls p.x p.z) (h2 : Cls p.s p.t) : Cls (p.step u).x (p.step u).z ∧ Cls (p.step u).s (p.step u).t := by
  obtain ⟨x, z, s, t⟩ := p
  dsimp only at h1 h2
  have m1 : (x + z) * (s - t) + (x - z) * (s + t) = 2 * (x * s - z * t) := by grind
  have m2 : (x + z) * (s - t) - (x - z) * (s + t) = 2 * (z * s - x * t) := by grind
  constructor
  · simp only [St.step]
    rcases h1 with h | h | h
    · exact Or.inr (Or.inl (Dv.rest ((h.mul (4 * z * ((x + z) * (x + z) + ((x + z) * (x + z) - (x - z) * (x - z)) * 121665))).eq (by grind))))
    · exact Or.inr (Or.inl (Dv.rest ((h.mul (4 * x * ((x + z) * (x + z) + ((x + z) * (x + z) - (x - z) * (x - z)) * 121665))).eq (by grind))))
    · exact Or.inl (Dv.rest ((h.mul (x * x - z * z)).eq (by grind)))
  · simp only [St.step, m1, m2]
    rcases hu with hu | hu
    · exact Or.inr (Or.inl (Dv.rest ((hu.mul (2 * (z * s - x * t) * (2 * (z * s - x * t)))).eq (by grind))))
    have key : Dv ((x * x - z * z) * (s * s - t * t)) → Cls (2 * (x * s - z * t) * (2 * (x * s - z * t)) % PP) (u * (2 * (z * s - x * t) * (2 * (z * s - x * t))) % PP) := fun h => by
      refine Or.inr (Or.inr (Dv.mod ?_ (sq_rest _ _)))
      refine ((h.mul (16 * ((x * s - z * t) * (x * s - z * t) + (z * s - x * t) * (z * s - x * t)))).add (hu.mul (-16 * ((z * s - x * t) * (z * s - x * t) * ((z * s - x * t) * (z * s - x * t)))))).eq ?_
      grind
    rcases h1 with h | h | h
    · rcases h2 with k | k | k
      · exact Or.inr (Or.inl (Dv.rest (((k.mul (4 * u * (z * s - x * t) * z)).add (h.mul (-4 * u * (z * s - x * t) * t))).eq (by grind))))
      · exact Or.inl (Dv.rest (((k.mul (-4 * (x * s - z * t) * z)).add (h.mul (4 * (x * s - z * t) * s))).eq (by grind)))
      · exact key (k.mul _)
    · rcases h2 with k | k | k
      · exact Or.inl (Dv.rest (((k.mul (4 * (x * s - z * t) * x)).add (h.mul (-4 * (x * s - z * t) * t))).eq (by grind)))
      · exact Or.inr (Or.inl (Dv.rest (((k.mul (-4 * u * (z * s - x * t) * x)).add (h.mul (4 * u * (z * s - x * t) * s))).eq (by grind))))
      · exact key (k.mul _)
    · exact key ((h.mul (s * s - t * t)).eq (by grind))
theorem turn_cls (b : Bool) (p : St) (h : Cls p.x p.z ∧ Cls p.s p.t) : Cls (p.turn b).x (p.turn b).z ∧ Cls (p.turn b).s (p.turn b).t := by
  cases b
  · exact h
  · exact ⟨h.2, h.1⟩
theorem step_1 (u : Int) (p : St) (h : Cls p.x p.z) : Dv (p.step u).x ∨ Dv (p.step u).z := by
  obtain ⟨x, z, s, t⟩ := p
  dsimp only at h
  simp only [St.step]
  rcases h with h | h | h
  · exact Or.inr (Dv.rest ((h.mul (4 * z * ((x + z) * (x + z) + ((x + z) * (x + z) - (x - z) * (x - z)) * 121665))).eq (by grind)))
  · exact Or.inr (Dv.rest ((h.mul (4 * x * ((x + z) * (x + z) + ((x + z) * (x + z) - (x - z) * (x - z)) * 121665))).eq (by grind)))
  · exact Or.inl (Dv.rest ((h.mul (x * x - z * z)).eq (by grind)))
theorem step_2 (u : Int) (p : St) (h : Dv p.x ∨ Dv p.z) : Dv (p.step u).z := by
  obtain ⟨x, z, s, t⟩ := p
  dsimp only at h
  simp only [St.step]
  rcases h with h | h
  · exact Dv.rest ((h.mul (4 * z * ((x + z) * (x + z) + ((x + z) * (x + z) - (x - z) * (x - z)) * 121665))).eq (by grind))
  · exact Dv.rest ((h.mul (4 * x * ((x + z) * (x + z) + ((x + z) * (x + z) - (x - z) * (x - z)) * 121665))).eq (by grind))

theorem Dv.zero : Dv 0 := Int.dvd_zero _
theorem lad_cls (n : List Int) (u : Int) (hu : Dv u ∨ Dv (u * u - 1)) : ∀ k, Cls (lad n u k).x (lad n u k).z ∧ Cls (lad n u k).s (lad n u k).t := by
  intro k
  induction k with
  | zero => exact ⟨Or.inr (Or.inl Dv.zero), hu.elim Or.inl (fun h => Or.inr (Or.inr h))⟩
  | succ k ih => exact turn_cls _ _ (step_cls u hu _ (turn_cls _ _ ih).1 (turn_cls _ _ ih).2)
theorem low_bit (k : List Int) (hl : k.length = 32) (i : Nat) (hi : i < 3) : bitAt (clampL k) i = false := by
  have g0 : (clampL k).getD 0 0 = k.getD 0 0 / 8 * 8 := by
    unfold clampL
    rw [gset_ne (by omega), gset_self (by omega)]
  unfold bitAt
  rw [show i / 8 = 0 by omega, g0]
  have h3 : i = 0 ∨ i = 1 ∨ i = 2 := by omega
  rcases h3 with rfl | rfl | rfl
  · simp; omega
  · simp; omega
  · simp; omega
theorem small_z (k u : List Int) (hk : k.length = 32) (hu : Dv (decV u) ∨ Dv (decV u * decV u - 1)) : Dv (ladN k u).z := by
  have h0 := lad_cls (clampL k) (decV u) hu 252
  have e1 : lad (clampL k) (decV u) 253 = (lad (clampL k) (decV u) 252).step (decV u) := by
    show (((lad (clampL k) (decV u) 252).turn (bitAt (clampL k) 2)).step (decV u)).turn (bitAt (clampL k) 2) = _
    rw [low_bit k hk 2 (by omega)]; rfl
  have e2 : lad (clampL k) (decV u) 254 = (lad (clampL k) (decV u) 253).step (decV u) := by
    show (((lad (clampL k) (decV u) 253).turn (bitAt (clampL k) 1)).step (decV u)).turn (bitAt (clampL k) 1) = _
    rw [low_bit k hk 1 (by omega)]; rfl
  have e3 : lad (clampL k) (decV u) 255 = (lad (clampL k) (decV u) 254).step (decV u) := by
    show (((lad (clampL k) (decV u) 254).turn (bitAt (clampL k) 0)).step (decV u)).turn (bitAt (clampL k) 0) = _
    rw [low_bit k hk 0 (by omega)]; rfl
  unfold ladN
  rw [e3, e2]
  refine step_2 _ _ (Or.inr (step_2 _ _ ?_))
  rw [e1]
  exact step_1 _ _ h0.1
theorem D_zero : D 0 = z32 := by decide +kernel
theorem smul_small (k u : List Int) (hk : k.length = 32) (hu : Dv (decV u) ∨ Dv (decV u * decV u - 1)) : smul k u = z32 := by
  have h := small_z k u hk hu
  have hz : R (ladN k u).z 0 := by unfold R; rw [Int.zero_emod]; exact Int.emod_eq_zero_of_dvd h
  have h2 : R ((ladN k u).x * (ladN k u).z ^ E0) ((ladN k u).x * 0 ^ E0) := (R.refl _).mul (hz.pow E0)
  unfold smul
  rw [D_eq h2, Int.zero_pow (by decide +kernel), Int.mul_zero, D_zero]
theorem allz_32 : allz z32 = true := by decide +kernel
theorem z32_get (i : Nat) : z32.getD i 0 = 0 := by
  rw [List.getD_eq_getElem?_getD]
  rcases Nat.lt_or_ge i z32.length with h | h
  · rw [List.getElem?_eq_getElem h]
    have : ∀ y ∈ z32, y = 0 := fun y hy => by simpa [z32] using hy
    exact this _ (List.getElem_mem h)
  · rw [List.getElem?_eq_none h]; rfl
def Small (U : List Int) : Prop := U.length = 32 ∧ Bytes U ∧ (Dv (decV U) ∨ Dv (decV U * decV U - 1))
theorem dvS (a : Int) (h : a % PP = 0) : Dv a := Int.dvd_of_emod_eq_zero h
theorem Small.of (U : List Int) (h : U.length = 32) (hb : U.all (fun x => decide (0 ≤ x ∧ x < 256)) = true) (hc : decV U % PP = 0 ∨ (decV U * decV U - 1) % PP = 0) : Small U :=
  ⟨h, fun x hx => of_decide_eq_true (List.all_eq_true.1 hb x hx), hc.elim (fun h => Or.inl (dvS _ h)) (fun h => Or.inr (dvS _ h))⟩
theorem Small.top {U : List Int} (h : Small U) : Small (U.set 31 (bits .xor .u8 (U.getD 31 0) 128)) := by
  have hb := h.2.1.get 31
  have p := xor128 (U.getD 31 0) ⟨hb.1, by omega⟩
  have e := decV_top (m := []) h.1 _ p.2.2
  rw [List.append_nil] at e
  exact ⟨by simpa using h.1, bytes_set h.2.1 _ _ ⟨p.1, by omega⟩, by rw [e]; exact h.2.2⟩
def fl (i : Nat) : List Int := List.replicate i 255 ++ List.replicate (32 - i) 0
theorem fl_length (i : Nat) (h : i ≤ 32) : (fl i).length = 32 := by simp [fl]; omega
theorem fl_set (i : Nat) (h : i < 32) : (fl i).set i 255 = fl (i + 1) := by
  unfold fl
  rw [show 32 - i = (32 - (i + 1)) + 1 by omega, List.replicate_succ, List.set_append_right _ _ (by simp)]
  simp [List.replicate_succ', List.append_assoc]
theorem fl_0 : fl 0 = z32 := by decide
def one32 : List Int := z32.set 0 1
def big (b : Int) : List Int := ((fl 32).set 0 b).set 31 127
theorem small_0 : Small z32 := Small.of _ rfl (by decide +kernel) (Or.inl (by decide +kernel))
theorem small_1 : Small one32 := Small.of _ rfl (by decide +kernel) (Or.inr (by decide +kernel))
theorem small_2 : Small (big 236) := Small.of _ (by decide +kernel) (by decide +kernel) (Or.inr (by decide +kernel))
theorem small_3 : Small (big 237) := Small.of _ (by decide +kernel) (by decide +kernel) (Or.inl (by decide +kernel))
theorem small_4 : Small (big 238) := Small.of _ (by decide +kernel) (by decide +kernel) (Or.inr (by decide +kernel))
theorem k42s (k U : List Int) (hk : k.length = 32) (hb : Bytes k) (hU : Small U) (w : World) {A B : Option Addr} {c d : Nat} (hc : 32 ≤ c) (h : RC w A 32 k) (h2 : RC w B 32 U) :
    Calls Try.prog 42 #[.slice A 32 c, .slice B 32 d] w fun e w' => ∃ A' c', e = .returned (.tuple #[.slice A' 32 c', .int .i64 0]) ∧ RC w' A' 32 z32 ∧ 32 ≤ c' ∧ Below w.heap.size w w' :=
  k42 k U hk hU.1 hb hU.2.1 z32 (smul_small k U hk hU.2.2) w hc h h2
theorem k44s (k U : List Int) (hk : k.length = 32) (hb : Bytes k) (hU : Small U) (w : World) {A B : Option Addr} {c d : Nat} (hc : 32 ≤ c) (h : RC w A 32 k) (h2 : RC w B 32 U) :
    Calls Try.prog 44 #[.slice A 32 c, .slice B 32 d] w fun e w' => ∃ A' c', e = .returned (.tuple #[.slice A' 0 c', .int .i64 11]) ∧ Below w.heap.size w w' := by
  have := shared_out k U (A := A) (B := B) (c := c) (d := d) w (by rw [hk]; exact h) (by omega) hb (by rw [hU.1]; exact h2) hU.2.1
  have e : sharedO k U = ([], 11) := by unfold sharedO; rw [if_pos ⟨hk, hU.1⟩, smul_small k U hk hU.2.2, allz_32]; rfl
  rw [e, hk, hU.1] at this
  refine this.mono ?_
  rintro e w' ⟨A', c', rfl, h1, h2, h3⟩
  exact ⟨A', c', rfl, h3⟩
end Go.Proofs.Ytfklojheogidpaa
