import Derived.Test.YtfklojheogidpaaCg
set_option linter.unusedVariables false
set_option linter.unusedSimpArgs false
namespace Go.Proofs.Ytfklojheogidpaa
open Go.RowKit Go.Proofs.YtfklojheogidpaaW.PrintWords

/-! ### The whole ladder is a multiple -/
def kN (n : List Int) : Nat → Nat
  | 0 => 0
  | i + 1 => 2 * kN n i + (if bitAt n (254 - i) = true then 1 else 0)
theorem step_rep {P1 P2 : Pt} (h1 : Ok P1) (h2 : Ok P2) {u y0 : Int} (hu : Dv (u * (1 - y0) - (1 + y0))) (hy : ¬ Dv (1 - y0)) (hu0 : ¬ Dv u) (hY : Dv (y0 * (1 + dd P1 P2) - (P1.y * P2.y + cA * (P1.x * P2.x))))
    {p : St} (r1 : Rep p.x p.z P1.y) (r2 : Rep p.s p.t P2.y) : Rep (p.step u).x (p.step u).z (padd P1 P1).y ∧ Rep (p.step u).s (p.step u).t (padd P1 P2).y :=
  ⟨(rep_dbl h1 r1).mod, (rep_add h1 h2 hu hy hu0 hY r1 r2).mod⟩
theorem lad_rep (n : List Int) {Q : Pt} (hQ : Ok Q) {u : Int} (hu : Dv (u * (1 - Q.y) - (1 + Q.y))) (hy : ¬ Dv (1 - Q.y)) (hu0 : ¬ Dv u) : ∀ i, Rep (lad n u i).x (lad n u i).z (mu Q (kN n i)).y ∧ Rep (lad n u i).s (lad n u i).t (mu Q (kN n i + 1)).y := by
  intro i
  induction i with
  | zero =>
    refine ⟨⟨Dv.zero.eq (by show (1 : Int) - 0 - (1 + 0) * 1 = 0; decide), ndv_1⟩, ?_, ?_⟩
    · show Dv (u - 1 - (u + 1) * (padd PO Q).y)
      rw [padd_zero hQ]
      exact hu.eq (by grind)
    · show ¬ Dv (u + 1)
      intro h
      exact ndv_2 (((h.mul (1 - Q.y)).add (hu.mul (-1))).eq (by grind))
  | succ i ih =>
    have k1 := mu_ok hQ (kN n i)
    have k2 := mu_ok hQ (kN n i + 1)
    have hd := diff_y k1 hQ (r := mu Q (kN n i + 1)) rfl
    have hd2 : Dv (Q.y * (1 + dd (mu Q (kN n i + 1)) (mu Q (kN n i))) - ((mu Q (kN n i + 1)).y * (mu Q (kN n i)).y + cA * ((mu Q (kN n i + 1)).x * (mu Q (kN n i)).x))) := hd.eq (by unfold dd; grind)
    have e1 : ∀ j k, padd (mu Q j) (mu Q k) = mu Q (j + k) := fun j k => mu_add hQ j k
    cases hb : bitAt n (254 - i) with
    | false =>
      have := step_rep k1 k2 hu hy hu0 hd (p := lad n u i) ih.1 ih.2
      rw [e1, e1] at this
      have el : lad n u (i + 1) = (lad n u i).step u := by
        show (((lad n u i).turn (bitAt n (254 - i))).step u).turn (bitAt n (254 - i)) = _
        rw [hb]; rfl
      have ek : kN n (i + 1) = kN n i + kN n i := by
        show 2 * kN n i + (if bitAt n (254 - i) = true then 1 else 0) = _
        rw [hb]; simp; omega
      rw [el, ek]
      exact this
    | true =>
      have := step_rep k2 k1 hu hy hu0 hd2 (p := (lad n u i).turn true) ih.2 ih.1
      rw [e1, e1] at this
      have el : lad n u (i + 1) = (((lad n u i).turn true).step u).turn true := by
        show (((lad n u i).turn (bitAt n (254 - i))).step u).turn (bitAt n (254 - i)) = _
        rw [hb]
      have ek : kN n (i + 1) = kN n i + 1 + kN n i := by
        show 2 * kN n i + (if bitAt n (254 - i) = true then 1 else 0) = _
        rw [hb]; simp; omega
      have ek2 : kN n (i + 1) + 1 = kN n i + 1 + (kN n i + 1) := by omega
      rw [el, ek2, ek]
      exact ⟨this.2, this.1⟩
/-! ### What is told of a point -/
def ench (y : Int) : Int := (1 + y) * iv (1 - y)
theorem iv_zero {z : Int} (h : Dv z) : Dv (iv z) := by
  have h2 : R (iv z) (0 ^ E0) := (Dv.r0.2 h).pow E0
  rw [Int.zero_pow (by decide +kernel)] at h2
  exact Dv.r0.1 h2
theorem rep_enc {x z y : Int} (h : Rep x z y) : R (x * z ^ E0) (ench y) := by
  have he := h.e
  have hn := h.n
  refine Dv.to ?_
  show Dv (x * iv z - (1 + y) * iv (1 - y))
  by_cases hz : Dv z
  · have i0 := iv_zero hz
    have hx : ¬ Dv x := fun k => hn (k.add hz)
    have h1 : Dv (x * (1 - y)) := (he.add (hz.mul (1 + y))).eq (by grind)
    have i1 := iv_zero (h1.cancel hx)
    exact ((i0.mul x).add (i1.mul (-(1 + y)))).eq (by grind)
  · have i0 := iv_unit hz
    have hy : ¬ Dv (1 - y) := fun k => by
      have t1 : Dv (z * (1 + y)) := ((k.mul x).add (he.mul (-1))).eq (by grind)
      have t2 := t1.cancel hz
      exact ndv_2 ((k.add t2).eq (by grind))
    have i1 := iv_unit hy
    generalize iv z = i at *
    generalize iv (1 - y) = j at *
    have : Dv (z * (1 - y) * (x * i - (1 + y) * j)) := (((i0.mul (x * (1 - y))).add (i1.mul (-(z * (1 + y))))).add he).eq (by grind)
    exact this.cancel (ndv_mul hz hy)
/-- The number that a key stands for. -/
def keyN (k : List Int) : Nat := kN (clampL k) 255
theorem smul_enc (k ub : List Int) {Q : Pt} (hQ : Ok Q) (hu : Dv (decV ub * (1 - Q.y) - (1 + Q.y))) (hy : ¬ Dv (1 - Q.y)) (hu0 : ¬ Dv (decV ub)) : smul k ub = D (ench (mu Q (keyN k)).y) :=
  D_eq (rep_enc (lad_rep (clampL k) hQ hu hy hu0 255).1)
def PB : Pt := ⟨19682211724289367445990778417013818358151178695569199618971391691394964886553, 46316835694926478169428394003475163141307993866256225615783033603165251855960⟩
theorem PB_ok : Ok PB := ⟨by unfold PP PB; decide, by unfold PP PB; decide, by unfold On Dv; decide +kernel⟩
theorem nine_enc (k : List Int) : smul k nine = D (ench (mu PB (keyN k)).y) := by
  have e : decV nine = 9 := decV_nine
  exact smul_enc k nine PB_ok (by rw [e]; unfold Dv; decide +kernel) (by unfold Dv; decide +kernel) (by rw [e]; unfold Dv; decide +kernel)
theorem ench_ok {y : Int} (h : ¬ Dv (ench y)) : ¬ Dv (1 - y) ∧ Dv (ench y * (1 - y) - (1 + y)) := by
  have hy : ¬ Dv (1 - y) := fun k => h ((iv_zero k).mul (1 + y))
  refine ⟨hy, ?_⟩
  have i1 := iv_unit hy
  unfold ench
  generalize iv (1 - y) = j at *
  exact (i1.mul (1 + y)).eq (by grind)
/-- A point of order 1 or 2, and its multiples. -/
structure Few (p : Pt) : Prop where
  x : Dv p.x
  y : Dv (p.y * p.y - 1)
theorem few_add {p q : Pt} (hp : Ok p) (hq : Ok q) (h1 : Few p) (h2 : Few q) : Few (padd p q) := by
  have s := padd_sum hp hq
  have c1 := complete1 hp.on hq.on
  have c2 := complete2 hp.on hq.on
  obtain ⟨sx, sy⟩ := s
  have a1 := h1.x; have a2 := h1.y; have b1 := h2.x; have b2 := h2.y
  generalize (padd p q) = r at *
  unfold dd at sx sy
  have rx : Dv r.x := Dv.cancel (((sx.add (a1.mul q.y)).add (b1.mul p.y)).eq (show (1 + cD * (p.x * q.x * p.y * q.y)) * r.x = _ by grind)) c1
  have ry : Dv (r.y - p.y * q.y) := (sy.add (a1.mul (cD * q.x * p.y * q.y * r.y - cA * q.x))).eq (by grind)
  exact ⟨rx, ((ry.mul (r.y + p.y * q.y)).add ((a2.mul (q.y * q.y)).add b2)).eq (by grind)⟩
theorem few_mu {p : Pt} (hp : Ok p) (h : Few p) : ∀ k, Few (mu p k)
  | 0 => ⟨Dv.zero, Dv.zero.eq (by show (1 : Int) * 1 - 1 = 0; decide)⟩
  | k + 1 => few_add (mu_ok hp k) hp (few_mu hp h k) h
theorem few_of {p : Pt} (hp : Ok p) (h : Dv (ench p.y)) : Few p := by
  have hy : Dv (p.y * p.y - 1) := by
    by_cases k : Dv (1 - p.y)
    · exact (k.mul (-(1 + p.y))).eq (by grind)
    · have i1 := iv_unit k
      unfold ench at h
      generalize iv (1 - p.y) = j at *
      have : Dv (1 + p.y) := ((h.mul (1 - p.y)).add (i1.mul (-(1 + p.y)))).eq (by grind)
      exact (this.mul (p.y - 1)).eq (by grind)
  have e1 := cA_eq
  have ho := hp.on
  unfold On at ho
  have : Dv (4 * (p.x * p.x)) := (ho.add (hy.mul (cD * p.x * p.x - 1))).eq (by grind)
  exact ⟨dv_sq (this.cancel ndv_4), hy⟩
theorem few_enc {p : Pt} (h : Few p) : Dv (ench p.y) := by
  have hy := h.y
  by_cases k : Dv (1 - p.y)
  · exact (iv_zero k).mul (1 + p.y)
  · have t : Dv ((1 - p.y) * (1 + p.y)) := (hy.mul (-1)).eq (by grind)
    exact ((t.cancel k).mul (iv (1 - p.y))).eq (by unfold ench; grind)
theorem D_dv {v : Int} (h : Dv v) : D v = z32 := by rw [D_eq (Dv.r0.2 h : R v 0), D_zero]
/-- One key times another one's public key. -/
theorem smul_pub (a b : List Int) (ha : a.length = 32) : smul a (smul b nine) = D (ench (mu PB (keyN a * keyN b)).y) := by
  rw [nine_enc b]
  have ok := mu_ok PB_ok (keyN b)
  have hd : Dv (decV (D (ench (mu PB (keyN b)).y)) - ench (mu PB (keyN b)).y) := by rw [D_decV]; exact dv_mod _
  rw [← mu_mul PB_ok]
  by_cases h : Dv (ench (mu PB (keyN b)).y)
  · have h0 : Dv (decV (D (ench (mu PB (keyN b)).y))) := (hd.add h).eq (by grind)
    rw [smul_small a _ ha (Or.inl h0)]
    exact (D_dv (few_enc (few_mu ok (few_of ok h) _))).symm
  · have h2 := ench_ok h
    have h0 : ¬ Dv (decV (D (ench (mu PB (keyN b)).y))) := ndv_eq h hd
    refine smul_enc a _ ok ?_ h2.1 h0
    have h3 := h2.2
    generalize decV (D (ench (mu PB (keyN b)).y)) = v at *
    exact (h3.add (hd.mul (1 - (mu PB (keyN b)).y))).eq (by grind)
theorem agrees (a b : List Int) (ha : a.length = 32) (hb : b.length = 32) : smul a (smul b nine) = smul b (smul a nine) := by
  rw [smul_pub a b ha, smul_pub b a hb, Nat.mul_comm]
end Go.Proofs.Ytfklojheogidpaa
