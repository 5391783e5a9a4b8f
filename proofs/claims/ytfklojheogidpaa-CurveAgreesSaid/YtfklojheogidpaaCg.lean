import Derived.Test.YtfklojheogidpaaCf
import Derived.Test.YtfklojheogidpaaCz
set_option linter.unusedVariables false
set_option linter.unusedSimpArgs false
namespace Go.Proofs.Ytfklojheogidpaa
open Go.RowKit Go.Proofs.YtfklojheogidpaaW.PrintWords
/-! ### Division by a rest that is not 0 -/
theorem Dv.of {a b : Int} (h : R a b) : Dv (a - b) := dvd_R.1 h
theorem Dv.to {a b : Int} (h : Dv (a - b)) : R a b := dvd_R.2 h
theorem Dv.r0 {a : Int} : R a 0 ↔ Dv a := by rw [dvd_R, Int.sub_zero]; exact Iff.rfl
def iv (z : Int) : Int := z ^ E0
theorem iv_unit {z : Int} (h : ¬ Dv z) : Dv (iv z * z - 1) := Dv.of (inv_R z (fun e => h (Dv.r0.1 e)))
theorem Dv.cancel {a b : Int} (h : Dv (a * b)) (ha : ¬ Dv a) : Dv b := by
  have u := iv_unit ha
  generalize iv a = i at u
  exact ((h.mul i).add (u.mul (-b))).eq (by grind)
theorem ndv_mul {a b : Int} (ha : ¬ Dv a) (hb : ¬ Dv b) : ¬ Dv (a * b) := fun h => hb (h.cancel ha)
theorem ndv_eq {a b : Int} (ha : ¬ Dv a) (h : Dv (b - a)) : ¬ Dv b := fun k => ha ((k.add (h.mul (-1))).eq (by grind))
theorem ndv_1 : ¬ Dv 1 := by unfold Dv; decide +kernel
theorem ndv_2 : ¬ Dv 2 := by unfold Dv; decide +kernel
theorem ndv_4 : ¬ Dv 4 := by unfold Dv; decide +kernel
/-! ### The curve -/
def cA : Int := 486664
def cD : Int := 486660
def cC : Int := 48802004052532134862652268456126542835229456083994414501085850622543968879637
theorem cA_eq : cA = cD + 4 := by decide
theorem cD_eq : cD = 4 * 121665 := by decide
theorem cC_sq : Dv (cC * cC - cA) := by unfold Dv; decide +kernel
theorem ndv_A : ¬ Dv cA := by unfold Dv; decide +kernel
theorem ndv_2C : ¬ Dv (2 * cC) := by unfold Dv; decide +kernel
theorem ndv_D : ¬ Dv cD := by unfold Dv; decide +kernel
theorem cD_pow : R (cD ^ 28948022309329048855892746252171976963317496166410141009864396001978282409974) (-1) := by
  have h := powm_eq 57896044618658097711785492504343953926634992332820282019728792003956564819949 255 486660 28948022309329048855892746252171976963317496166410141009864396001978282409974 (by decide +kernel)
  have h2 : powm 57896044618658097711785492504343953926634992332820282019728792003956564819949 255 486660 28948022309329048855892746252171976963317496166410141009864396001978282409974 = 57896044618658097711785492504343953926634992332820282019728792003956564819948 := by decide +kernel
  rw [h2] at h
  have h3 := pow_R _ _ _ h
  refine R.trans h3 ?_
  unfold R
  decide +kernel
theorem half_E : E0 + 1 = 2 * 28948022309329048855892746252171976963317496166410141009864396001978282409974 := by decide +kernel
theorem not_sq (r : Int) (h : Dv (r * r - cD)) : False := by
  have hr : ¬ Dv r := fun k => ndv_D (((k.mul r).add (h.mul (-1))).eq (by grind))
  have h1 := inv_R r (fun e => hr (Dv.r0.1 e))
  rw [← Int.pow_succ, show Nat.succ E0 = 2 * 28948022309329048855892746252171976963317496166410141009864396001978282409974 from half_E] at h1
  have h3 := cD_pow
  generalize 28948022309329048855892746252171976963317496166410141009864396001978282409974 = k at h1 h3
  rw [Int.pow_mul, show r ^ 2 = r * r by rw [Int.pow_succ, Int.pow_succ, Int.pow_zero, Int.one_mul]] at h1
  have h2 : R ((r * r) ^ k) (cD ^ k) := (Dv.to h).pow k
  have h4 : R 1 (-1) := (Eq.symm h1).trans (h2.trans h3)
  exact ndv_2 ((Dv.of h4).eq (by decide))
theorem not_sq2 (v w : Int) (hw : ¬ Dv w) (h : Dv (cD * (w * w) - v * v)) : False := by
  have u := iv_unit hw
  generalize iv w = i at u
  refine not_sq (v * i) ((h.mul (-(i * i)) |>.add (u.mul (cD * (i * w + 1)))).eq ?_)
  grind
def On (x y : Int) : Prop := Dv (cA * x * x + y * y - 1 - cD * x * x * y * y)
theorem complete {x1 y1 x2 y2 : Int} (h1 : On x1 y1) (h2 : On x2 y2) : ¬ Dv ((1 + cD * (x1 * x2 * y1 * y2)) * (1 - cD * (x1 * x2 * y1 * y2))) := by
  intro h
  have hc := cC_sq
  generalize hE : cD * (x1 * x2 * y1 * y2) = e at h
  have key : ∀ s : Int, s * s = 1 → Dv (x1 * y1 * (cC * x2 + s * y2)) := fun s hs => by
    refine Classical.byContradiction fun hn => not_sq2 (cC * x1 + s * (e * y1)) _ hn ?_
    refine (((h2.mul (cD * x1 * x1 * y1 * y1)).add (h1.mul (-1))).add ((h.mul (-(1 - y1 * y1))).add (hc.mul (cD * x1 * x1 * y1 * y1 * x2 * x2 - x1 * x1)))).eq ?_
    subst hE
    grind
  have k1 := key 1 (by decide)
  have k2 := key (-1) (by decide)
  have k3 : Dv (2 * cC * (x1 * y1 * x2)) := (k1.add k2).eq (by grind)
  have k4 := k3.cancel ndv_2C
  have k5 : Dv e := (k4.mul (cD * y2)).eq (by rw [← hE]; grind)
  exact ndv_1 ((h.add (k5.mul e)).eq (by grind))
theorem complete1 {x1 y1 x2 y2 : Int} (h1 : On x1 y1) (h2 : On x2 y2) : ¬ Dv (1 + cD * (x1 * x2 * y1 * y2)) := fun h => complete h1 h2 ((h.mul (1 - cD * (x1 * x2 * y1 * y2))).eq (by grind))
theorem complete2 {x1 y1 x2 y2 : Int} (h1 : On x1 y1) (h2 : On x2 y2) : ¬ Dv (1 - cD * (x1 * x2 * y1 * y2)) := fun h => complete h1 h2 (h.mul (1 + cD * (x1 * x2 * y1 * y2)))
theorem closure_id (x1 y1 x2 y2 a d : Int) : a*(x1*y2+y1*x2)*(x1*y2+y1*x2)*(1-(d*(x1*x2*y1*y2)))*(1-(d*(x1*x2*y1*y2)))+(y1*y2-a*(x1*x2))*(y1*y2-a*(x1*x2))*(1+(d*(x1*x2*y1*y2)))*(1+(d*(x1*x2*y1*y2)))-(1+(d*(x1*x2*y1*y2)))*(1+(d*(x1*x2*y1*y2)))*(1-(d*(x1*x2*y1*y2)))*(1-(d*(x1*x2*y1*y2)))-d*(x1*y2+y1*x2)*(x1*y2+y1*x2)*(y1*y2-a*(x1*x2))*(y1*y2-a*(x1*x2)) = ((1)*y2*y2*y2*y2 + (-2)*x2*x2*y2*y2*d + (4)*x2*x2*y2*y2*a + (-2)*x2*x2*y2*y2*y2*y2*a + (1)*x2*x2*x2*x2*a*a + (-2)*x2*x2*x2*x2*y2*y2*a*a + (-1)*x2*x2*x2*x2*y2*y2*y2*y2*d*d + (2)*x2*x2*x2*x2*y2*y2*y2*y2*a*d + (-1)*y1*y1*x2*x2*y2*y2*y2*y2*d + (-1)*y1*y1*x2*x2*x2*x2*y2*y2*a*d + (1)*y1*y1*x2*x2*x2*x2*y2*y2*y2*y2*d*d + (-1)*x1*x1*x2*x2*y2*y2*y2*y2*a*d + (-1)*x1*x1*x2*x2*x2*x2*y2*y2*a*a*d + (1)*x1*x1*x2*x2*x2*x2*y2*y2*y2*y2*a*d*d + (1)*x1*x1*y1*y1*x2*x2*x2*x2*y2*y2*y2*y2*d*d*d)*(a*x1*x1 + y1*y1 - 1 - d*x1*x1*y1*y1) + ((1)*1 + (1)*y2*y2 + (1)*x2*x2*a + (1)*x2*x2*y2*y2*d + (-2)*x2*x2*y2*y2*a + (-1)*y1*y1*y2*y2 + (-1)*y1*y1*x2*x2*a + (-2)*y1*y1*x2*x2*y2*y2*d + (2)*y1*y1*x2*x2*y2*y2*a + (1)*y1*y1*y1*y1*x2*x2*y2*y2*d + (-1)*x1*x1*y2*y2*a + (-1)*x1*x1*x2*x2*a*a + (-2)*x1*x1*x2*x2*y2*y2*a*d + (2)*x1*x1*x2*x2*y2*y2*a*a + (1)*x1*x1*x1*x1*x2*x2*y2*y2*a*a*d)*(a*x2*x2 + y2*y2 - 1 - d*x2*x2*y2*y2) := by grind
theorem assoc_x (x1 y1 x2 y2 x3 y3 a d : Int) : ((x1*y2+y1*x2)*(1-(d*(x1*x2*y1*y2)))*y3+(y1*y2-a*(x1*x2))*(1+(d*(x1*x2*y1*y2)))*x3)*((1+(d*(x2*x3*y2*y3)))*(1-(d*(x2*x3*y2*y3)))+d*(x2*y3+y2*x3)*(y2*y3-a*(x2*x3))*x1*y1)-(x1*(y2*y3-a*(x2*x3))*(1+(d*(x2*x3*y2*y3)))+y1*(x2*y3+y2*x3)*(1-(d*(x2*x3*y2*y3))))*((1+(d*(x1*x2*y1*y2)))*(1-(d*(x1*x2*y1*y2)))+d*(x1*y2+y1*x2)*(y1*y2-a*(x1*x2))*x3*y3) = ((-1)*y1*x2*y2*y2*y2*y2*x3*x3*y3*d + (-1)*y1*x2*x2*y2*y2*y2*x3*d + (1)*y1*x2*x2*y2*y2*y2*x3*x3*x3*a*d + (-1)*y1*x2*x2*x2*y2*y2*y3*d + (1)*y1*x2*x2*x2*y2*y2*y3*y3*y3*d + (1)*y1*x2*x2*x2*y2*y2*y2*y2*x3*x3*y3*d*d + (-1)*y1*x2*x2*x2*x2*y2*x3*y3*y3*a*d + (1)*y1*x2*x2*x2*x2*y2*y2*y2*x3*y3*y3*d*d + (1)*x1*x2*y2*y2*y2*y2*x3*y3*y3*d + (-1)*x1*x2*x2*y2*y2*y2*y3*d + (1)*x1*x2*x2*y2*y2*y2*y3*y3*y3*d + (1)*x1*x2*x2*x2*y2*y2*x3*a*d + (-1)*x1*x2*x2*x2*y2*y2*x3*x3*x3*a*a*d + (-1)*x1*x2*x2*x2*y2*y2*y2*y2*x3*y3*y3*d*d + (-1)*x1*x2*x2*x2*x2*y2*x3*x3*y3*a*a*d + (1)*x1*x2*x2*x2*x2*y2*y2*y2*x3*x3*y3*a*d*d)*(a*x1*x1 + y1*y1 - 1 - d*x1*x1*y1*y1) + ((1)*y1*y2*x3 + (-1)*y1*y2*x3*y3*y3 + (-1)*y1*y2*x3*x3*x3*a + (1)*y1*y2*x3*x3*x3*y3*y3*d + (1)*y1*x2*y3 + (-1)*y1*x2*y3*y3*y3 + (-1)*y1*x2*x3*x3*y3*a + (1)*y1*x2*x3*x3*y3*y3*y3*d + (-1)*y1*x2*y2*y2*x3*x3*y3*d + (-1)*y1*x2*x2*y2*x3*y3*y3*d + (-1)*y1*y1*y1*y2*x3 + (1)*y1*y1*y1*y2*x3*y3*y3 + (1)*y1*y1*y1*y2*x3*x3*x3*a + (-1)*y1*y1*y1*y2*x3*x3*x3*y3*y3*d + (-1)*y1*y1*y1*x2*y3 + (1)*y1*y1*y1*x2*y3*y3*y3 + (1)*y1*y1*y1*x2*x3*x3*y3*a + (-1)*y1*y1*y1*x2*x3*x3*y3*y3*y3*d + (1)*y1*y1*y1*x2*y2*y2*x3*x3*y3*d + (1)*y1*y1*y1*x2*x2*y2*x3*y3*y3*d + (1)*x1*y2*y3 + (-1)*x1*y2*y3*y3*y3 + (-1)*x1*y2*x3*x3*y3*a + (1)*x1*y2*x3*x3*y3*y3*y3*d + (-1)*x1*x2*x3*a + (1)*x1*x2*x3*y3*y3*a + (1)*x1*x2*x3*x3*x3*a*a + (-1)*x1*x2*x3*x3*x3*y3*y3*a*d + (1)*x1*x2*y2*y2*x3*y3*y3*d + (-1)*x1*x2*x2*y2*x3*x3*y3*a*d + (-1)*x1*y1*y1*y2*y3 + (1)*x1*y1*y1*y2*y3*y3*y3 + (1)*x1*y1*y1*y2*x3*x3*y3*a + (-1)*x1*y1*y1*y2*x3*x3*y3*y3*y3*d + (1)*x1*y1*y1*x2*x3*a + (-1)*x1*y1*y1*x2*x3*y3*y3*a + (-1)*x1*y1*y1*x2*x3*x3*x3*a*a + (1)*x1*y1*y1*x2*x3*x3*x3*y3*y3*a*d + (-1)*x1*y1*y1*x2*y2*y2*x3*y3*y3*d + (1)*x1*y1*y1*x2*y2*y2*x3*x3*x3*y3*y3*d*d + (1)*x1*y1*y1*x2*x2*y2*x3*x3*y3*a*d + (-1)*x1*y1*y1*x2*x2*y2*x3*x3*y3*y3*y3*d*d + (-1)*x1*x1*y1*y2*x3*a + (1)*x1*x1*y1*y2*x3*y3*y3*a + (1)*x1*x1*y1*y2*x3*x3*x3*a*a + (-1)*x1*x1*y1*y2*x3*x3*x3*y3*y3*a*d + (-1)*x1*x1*y1*x2*y3*a + (1)*x1*x1*y1*x2*y3*y3*y3*a + (1)*x1*x1*y1*x2*x3*x3*y3*a*a + (-1)*x1*x1*y1*x2*x3*x3*y3*y3*y3*a*d + (1)*x1*x1*y1*x2*y2*y2*x3*x3*y3*a*d + (-1)*x1*x1*y1*x2*y2*y2*x3*x3*y3*y3*y3*d*d + (1)*x1*x1*y1*x2*x2*y2*x3*y3*y3*a*d + (-1)*x1*x1*y1*x2*x2*y2*x3*x3*x3*y3*y3*a*d*d + (-1)*x1*x1*x1*y2*y3*a + (1)*x1*x1*x1*y2*y3*y3*y3*a + (1)*x1*x1*x1*y2*x3*x3*y3*a*a + (-1)*x1*x1*x1*y2*x3*x3*y3*y3*y3*a*d + (1)*x1*x1*x1*x2*x3*a*a + (-1)*x1*x1*x1*x2*x3*y3*y3*a*a + (-1)*x1*x1*x1*x2*x3*x3*x3*a*a*a + (1)*x1*x1*x1*x2*x3*x3*x3*y3*y3*a*a*d + (-1)*x1*x1*x1*x2*y2*y2*x3*y3*y3*a*d + (1)*x1*x1*x1*x2*x2*y2*x3*x3*y3*a*a*d)*(a*x2*x2 + y2*y2 - 1 - d*x2*x2*y2*y2) + ((-1)*y1*y2*x3 + (1)*y1*y2*y2*y2*x3 + (-1)*y1*x2*y3 + (1)*y1*x2*y2*y2*y3 + (1)*y1*x2*x2*y2*x3*a + (1)*y1*x2*x2*x2*y3*a + (1)*y1*y1*y1*y2*x3 + (-1)*y1*y1*y1*y2*y2*y2*x3 + (1)*y1*y1*y1*x2*y3 + (-1)*y1*y1*y1*x2*y2*y2*y3 + (-1)*y1*y1*y1*x2*x2*y2*x3*a + (-1)*y1*y1*y1*x2*x2*x2*y3*a + (-1)*x1*y2*y3 + (1)*x1*y2*y2*y2*y3 + (1)*x1*x2*x3*a + (-1)*x1*x2*y2*y2*x3*a + (1)*x1*x2*x2*y2*y3*a + (-1)*x1*x2*x2*x2*x3*a*a + (1)*x1*y1*y1*y2*y3 + (-1)*x1*y1*y1*y2*y2*y2*y3 + (-1)*x1*y1*y1*x2*x3*a + (-1)*x1*y1*y1*x2*y2*y2*x3*d + (1)*x1*y1*y1*x2*y2*y2*x3*a + (1)*x1*y1*y1*x2*x2*y2*y3*d + (-1)*x1*y1*y1*x2*x2*y2*y3*a + (1)*x1*y1*y1*x2*x2*x2*x3*a*a + (1)*x1*x1*y1*y2*x3*a + (-1)*x1*x1*y1*y2*y2*y2*x3*a + (1)*x1*x1*y1*x2*y3*a + (1)*x1*x1*y1*x2*y2*y2*y3*d + (-1)*x1*x1*y1*x2*y2*y2*y3*a + (1)*x1*x1*y1*x2*x2*y2*x3*a*d + (-1)*x1*x1*y1*x2*x2*y2*x3*a*a + (-1)*x1*x1*y1*x2*x2*x2*y3*a*a + (1)*x1*x1*x1*y2*y3*a + (-1)*x1*x1*x1*y2*y2*y2*y3*a + (-1)*x1*x1*x1*x2*x3*a*a + (1)*x1*x1*x1*x2*y2*y2*x3*a*a + (-1)*x1*x1*x1*x2*x2*y2*y3*a*a + (1)*x1*x1*x1*x2*x2*x2*x3*a*a*a)*(a*x3*x3 + y3*y3 - 1 - d*x3*x3*y3*y3) := by grind
theorem assoc_y (x1 y1 x2 y2 x3 y3 a d : Int) : ((y1*y2-a*(x1*x2))*(1+(d*(x1*x2*y1*y2)))*y3-a*(x1*y2+y1*x2)*(1-(d*(x1*x2*y1*y2)))*x3)*((1+(d*(x2*x3*y2*y3)))*(1-(d*(x2*x3*y2*y3)))-d*(x2*y3+y2*x3)*(y2*y3-a*(x2*x3))*x1*y1)-(y1*(y2*y3-a*(x2*x3))*(1+(d*(x2*x3*y2*y3)))-a*x1*(x2*y3+y2*x3)*(1-(d*(x2*x3*y2*y3))))*((1+(d*(x1*x2*y1*y2)))*(1-(d*(x1*x2*y1*y2)))-d*(x1*y2+y1*x2)*(y1*y2-a*(x1*x2))*x3*y3) = ((1)*y1*x2*y2*y2*y2*y2*x3*y3*y3*d + (-1)*y1*x2*x2*y2*y2*y2*y3*d + (1)*y1*x2*x2*y2*y2*y2*y3*y3*y3*d + (1)*y1*x2*x2*x2*y2*y2*x3*a*d + (-1)*y1*x2*x2*x2*y2*y2*x3*x3*x3*a*a*d + (-1)*y1*x2*x2*x2*y2*y2*y2*y2*x3*y3*y3*d*d + (-1)*y1*x2*x2*x2*x2*y2*x3*x3*y3*a*a*d + (1)*y1*x2*x2*x2*x2*y2*y2*y2*x3*x3*y3*a*d*d + (1)*x1*x2*y2*y2*y2*y2*x3*x3*y3*a*d + (1)*x1*x2*x2*y2*y2*y2*x3*a*d + (-1)*x1*x2*x2*y2*y2*y2*x3*x3*x3*a*a*d + (1)*x1*x2*x2*x2*y2*y2*y3*a*d + (-1)*x1*x2*x2*x2*y2*y2*y3*y3*y3*a*d + (-1)*x1*x2*x2*x2*y2*y2*y2*y2*x3*x3*y3*a*d*d + (1)*x1*x2*x2*x2*x2*y2*x3*y3*y3*a*a*d + (-1)*x1*x2*x2*x2*x2*y2*y2*y2*x3*y3*y3*a*d*d)*(a*x1*x1 + y1*y1 - 1 - d*x1*x1*y1*y1) + ((1)*y1*y2*y3 + (-1)*y1*y2*y3*y3*y3 + (-1)*y1*y2*x3*x3*y3*a + (1)*y1*y2*x3*x3*y3*y3*y3*d + (-1)*y1*x2*x3*a + (1)*y1*x2*x3*y3*y3*a + (1)*y1*x2*x3*x3*x3*a*a + (-1)*y1*x2*x3*x3*x3*y3*y3*a*d + (1)*y1*x2*y2*y2*x3*y3*y3*d + (-1)*y1*x2*x2*y2*x3*x3*y3*a*d + (-1)*y1*y1*y1*y2*y3 + (1)*y1*y1*y1*y2*y3*y3*y3 + (1)*y1*y1*y1*y2*x3*x3*y3*a + (-1)*y1*y1*y1*y2*x3*x3*y3*y3*y3*d + (1)*y1*y1*y1*x2*x3*a + (-1)*y1*y1*y1*x2*x3*y3*y3*a + (-1)*y1*y1*y1*x2*x3*x3*x3*a*a + (1)*y1*y1*y1*x2*x3*x3*x3*y3*y3*a*d + (-1)*y1*y1*y1*x2*y2*y2*x3*y3*y3*d + (1)*y1*y1*y1*x2*x2*y2*x3*x3*y3*a*d + (-1)*x1*y2*x3*a + (1)*x1*y2*x3*y3*y3*a + (1)*x1*y2*x3*x3*x3*a*a + (-1)*x1*y2*x3*x3*x3*y3*y3*a*d + (-1)*x1*x2*y3*a + (1)*x1*x2*y3*y3*y3*a + (1)*x1*x2*x3*x3*y3*a*a + (-1)*x1*x2*x3*x3*y3*y3*y3*a*d + (1)*x1*x2*y2*y2*x3*x3*y3*a*d + (1)*x1*x2*x2*y2*x3*y3*y3*a*d + (1)*x1*y1*y1*y2*x3*a + (-1)*x1*y1*y1*y2*x3*y3*y3*a + (-1)*x1*y1*y1*y2*x3*x3*x3*a*a + (1)*x1*y1*y1*y2*x3*x3*x3*y3*y3*a*d + (1)*x1*y1*y1*x2*y3*a + (-1)*x1*y1*y1*x2*y3*y3*y3*a + (-1)*x1*y1*y1*x2*x3*x3*y3*a*a + (1)*x1*y1*y1*x2*x3*x3*y3*y3*y3*a*d + (-1)*x1*y1*y1*x2*y2*y2*x3*x3*y3*a*d + (1)*x1*y1*y1*x2*y2*y2*x3*x3*y3*y3*y3*d*d + (-1)*x1*y1*y1*x2*x2*y2*x3*y3*y3*a*d + (1)*x1*y1*y1*x2*x2*y2*x3*x3*x3*y3*y3*a*d*d + (-1)*x1*x1*y1*y2*y3*a + (1)*x1*x1*y1*y2*y3*y3*y3*a + (1)*x1*x1*y1*y2*x3*x3*y3*a*a + (-1)*x1*x1*y1*y2*x3*x3*y3*y3*y3*a*d + (1)*x1*x1*y1*x2*x3*a*a + (-1)*x1*x1*y1*x2*x3*y3*y3*a*a + (-1)*x1*x1*y1*x2*x3*x3*x3*a*a*a + (1)*x1*x1*y1*x2*x3*x3*x3*y3*y3*a*a*d + (-1)*x1*x1*y1*x2*y2*y2*x3*y3*y3*a*d + (1)*x1*x1*y1*x2*y2*y2*x3*x3*x3*y3*y3*a*d*d + (1)*x1*x1*y1*x2*x2*y2*x3*x3*y3*a*a*d + (-1)*x1*x1*y1*x2*x2*y2*x3*x3*y3*y3*y3*a*d*d + (1)*x1*x1*x1*y2*x3*a*a + (-1)*x1*x1*x1*y2*x3*y3*y3*a*a + (-1)*x1*x1*x1*y2*x3*x3*x3*a*a*a + (1)*x1*x1*x1*y2*x3*x3*x3*y3*y3*a*a*d + (1)*x1*x1*x1*x2*y3*a*a + (-1)*x1*x1*x1*x2*y3*y3*y3*a*a + (-1)*x1*x1*x1*x2*x3*x3*y3*a*a*a + (1)*x1*x1*x1*x2*x3*x3*y3*y3*y3*a*a*d + (-1)*x1*x1*x1*x2*y2*y2*x3*x3*y3*a*a*d + (-1)*x1*x1*x1*x2*x2*y2*x3*y3*y3*a*a*d)*(a*x2*x2 + y2*y2 - 1 - d*x2*x2*y2*y2) + ((-1)*y1*y2*y3 + (1)*y1*y2*y2*y2*y3 + (1)*y1*x2*x3*a + (-1)*y1*x2*y2*y2*x3*a + (1)*y1*x2*x2*y2*y3*a + (-1)*y1*x2*x2*x2*x3*a*a + (1)*y1*y1*y1*y2*y3 + (-1)*y1*y1*y1*y2*y2*y2*y3 + (-1)*y1*y1*y1*x2*x3*a + (1)*y1*y1*y1*x2*y2*y2*x3*a + (-1)*y1*y1*y1*x2*x2*y2*y3*a + (1)*y1*y1*y1*x2*x2*x2*x3*a*a + (1)*x1*y2*x3*a + (-1)*x1*y2*y2*y2*x3*a + (1)*x1*x2*y3*a + (-1)*x1*x2*y2*y2*y3*a + (-1)*x1*x2*x2*y2*x3*a*a + (-1)*x1*x2*x2*x2*y3*a*a + (-1)*x1*y1*y1*y2*x3*a + (1)*x1*y1*y1*y2*y2*y2*x3*a + (-1)*x1*y1*y1*x2*y3*a + (-1)*x1*y1*y1*x2*y2*y2*y3*d + (1)*x1*y1*y1*x2*y2*y2*y3*a + (-1)*x1*y1*y1*x2*x2*y2*x3*a*d + (1)*x1*y1*y1*x2*x2*y2*x3*a*a + (1)*x1*y1*y1*x2*x2*x2*y3*a*a + (1)*x1*x1*y1*y2*y3*a + (-1)*x1*x1*y1*y2*y2*y2*y3*a + (-1)*x1*x1*y1*x2*x3*a*a + (-1)*x1*x1*y1*x2*y2*y2*x3*a*d + (1)*x1*x1*y1*x2*y2*y2*x3*a*a + (1)*x1*x1*y1*x2*x2*y2*y3*a*d + (-1)*x1*x1*y1*x2*x2*y2*y3*a*a + (1)*x1*x1*y1*x2*x2*x2*x3*a*a*a + (-1)*x1*x1*x1*y2*x3*a*a + (1)*x1*x1*x1*y2*y2*y2*x3*a*a + (-1)*x1*x1*x1*x2*y3*a*a + (1)*x1*x1*x1*x2*y2*y2*y3*a*a + (1)*x1*x1*x1*x2*x2*y2*x3*a*a*a + (1)*x1*x1*x1*x2*x2*x2*y3*a*a*a)*(a*x3*x3 + y3*y3 - 1 - d*x3*x3*y3*y3) := by grind
theorem dadd_id (x1 y1 x2 y2 a d : Int) : (1-(d*(x1*x2*y1*y2))-(y1*y2-a*(x1*x2)))*(1+(d*(x1*x2*y1*y2))-(y1*y2+a*(x1*x2)))*((y1+y2)*(y1+y2))-(1-(d*(x1*x2*y1*y2))+(y1*y2-a*(x1*x2)))*(1+(d*(x1*x2*y1*y2))+(y1*y2+a*(x1*x2)))*((y2-y1)*(y2-y1)) = ((-4)*y1*x2*x2*y2*a + (4)*y1*x2*x2*y2*y2*y2*d)*(a*x1*x1 + y1*y1 - 1 - d*x1*x1*y1*y1) + ((-4)*y1*y2 + (4)*y1*y1*y1*y2)*(a*x2*x2 + y2*y2 - 1 - d*x2*x2*y2*y2) := by grind
/-! ### Points, added -/
structure Pt where
  x : Int
  y : Int
def dd (p q : Pt) : Int := cD * (p.x * q.x * p.y * q.y)
def padd (p q : Pt) : Pt := ⟨(p.x * q.y + p.y * q.x) * iv (1 + dd p q) % PP, (p.y * q.y - cA * (p.x * q.x)) * iv (1 - dd p q) % PP⟩
structure Ok (p : Pt) : Prop where
  x0 : 0 ≤ p.x ∧ p.x < PP
  y0 : 0 ≤ p.y ∧ p.y < PP
  on : On p.x p.y
theorem eq_of_dv {a b : Int} (ha : 0 ≤ a ∧ a < PP) (hb : 0 ≤ b ∧ b < PP) (h : Dv (a - b)) : a = b := by
  have := Dv.to h
  unfold R at this
  rwa [Int.emod_eq_of_lt ha.1 ha.2, Int.emod_eq_of_lt hb.1 hb.2] at this
theorem mod_r (a : Int) : 0 ≤ a % PP ∧ a % PP < PP := ⟨Int.emod_nonneg _ (by unfold PP; omega), Int.emod_lt_of_pos _ (by unfold PP; omega)⟩
theorem dv_mod (a : Int) : Dv (a % PP - a) := Dv.of (Int.emod_emod_of_dvd _ (Int.dvd_refl _))
/-- What tells a sum. -/
structure Summed (p q r : Pt) : Prop where
  x : Dv (r.x * (1 + dd p q) - (p.x * q.y + p.y * q.x))
  y : Dv (r.y * (1 - dd p q) - (p.y * q.y - cA * (p.x * q.x)))
theorem div_ok {n z : Int} (hz : ¬ Dv z) : Dv (n * iv z % PP * z - n) := by
  have u := iv_unit hz
  have m := dv_mod (n * iv z)
  generalize n * iv z % PP = r at m ⊢
  generalize iv z = i at u m
  exact ((m.mul z).add (u.mul n)).eq (by grind)
theorem padd_sum {p q : Pt} (hp : Ok p) (hq : Ok q) : Summed p q (padd p q) := ⟨div_ok (complete1 hp.on hq.on), div_ok (complete2 hp.on hq.on)⟩
theorem padd_on {p q : Pt} (hp : Ok p) (hq : Ok q) : On (padd p q).x (padd p q).y := by
  have s := padd_sum hp hq
  have c1 := complete1 hp.on hq.on
  have c2 := complete2 hp.on hq.on
  have h1 := hp.on
  have h2 := hq.on
  obtain ⟨sx, sy⟩ := s
  generalize (padd p q).x = X at *
  generalize (padd p q).y = Y at *
  unfold dd at sx sy
  obtain ⟨x1, y1⟩ := p
  obtain ⟨x2, y2⟩ := q
  dsimp only at *
  have id := closure_id x1 y1 x2 y2 cA cD
  have hC : Dv (cA*(x1*y2+y1*x2)*(x1*y2+y1*x2)*(1-(cD*(x1*x2*y1*y2)))*(1-(cD*(x1*x2*y1*y2)))+(y1*y2-cA*(x1*x2))*(y1*y2-cA*(x1*x2))*(1+(cD*(x1*x2*y1*y2)))*(1+(cD*(x1*x2*y1*y2)))-(1+(cD*(x1*x2*y1*y2)))*(1+(cD*(x1*x2*y1*y2)))*(1-(cD*(x1*x2*y1*y2)))*(1-(cD*(x1*x2*y1*y2)))-cD*(x1*y2+y1*x2)*(x1*y2+y1*x2)*(y1*y2-cA*(x1*x2))*(y1*y2-cA*(x1*x2))) := by
    rw [id]
    exact (h1.mul _).add (h2.mul _)
  clear id h1 h2
  generalize 1 + cD * (x1 * x2 * y1 * y2) = D1 at *
  generalize 1 - cD * (x1 * x2 * y1 * y2) = D2 at *
  generalize x1 * y2 + y1 * x2 = n1 at *
  generalize y1 * y2 - cA * (x1 * x2) = n2 at *
  have hh : Dv ((D1 * D1 * (D2 * D2)) * (cA * X * X + Y * Y - 1 - cD * X * X * Y * Y)) := by
    refine ((hC.add (sx.mul ((cA * D2 * D2 - cD * (Y * D2) * (Y * D2)) * (X * D1 + n1)))).add (sy.mul ((D1 * D1 - cD * n1 * n1) * (Y * D2 + n2)))).eq ?_
    grind
  exact hh.cancel (ndv_mul (ndv_mul c1 c1) (ndv_mul c2 c2))
theorem padd_ok {p q : Pt} (hp : Ok p) (hq : Ok q) : Ok (padd p q) := ⟨mod_r _, mod_r _, padd_on hp hq⟩
theorem sum_uniq {p q r s : Pt} (hp : Ok p) (hq : Ok q) (hr : Ok r) (hs : Ok s) (h1 : Summed p q r) (h2 : Summed p q s) : r = s := by
  have e1 := eq_of_dv hr.x0 hs.x0 (((h1.x.add (h2.x.mul (-1))).eq (show (1 + dd p q) * (r.x - s.x) = _ by grind)).cancel (complete1 hp.on hq.on))
  have e2 := eq_of_dv hr.y0 hs.y0 (((h1.y.add (h2.y.mul (-1))).eq (show (1 - dd p q) * (r.y - s.y) = _ by grind)).cancel (complete2 hp.on hq.on))
  cases r; cases s
  simp only at e1 e2
  rw [e1, e2]
theorem padd_comm (p q : Pt) : padd p q = padd q p := by
  unfold padd dd
  rw [show p.x * q.y + p.y * q.x = q.x * p.y + q.y * p.x by grind, show p.x * q.x * p.y * q.y = q.x * p.x * q.y * p.y by grind, show p.y * q.y - cA * (p.x * q.x) = q.y * p.y - cA * (q.x * p.x) by grind]
theorem padd_assoc {p q s : Pt} (hp : Ok p) (hq : Ok q) (hs : Ok s) : padd (padd p q) s = padd p (padd q s) := by
  have ok1 := padd_ok hp hq
  have ok2 := padd_ok hq hs
  have ok3 := padd_ok ok1 hs
  have ok4 := padd_ok hp ok2
  have sA := padd_sum hp hq
  have sB := padd_sum hq hs
  have sL := padd_sum ok1 hs
  have sR := padd_sum hp ok2
  have u1 := complete1 ok1.on hs.on
  have u2 := complete2 ok1.on hs.on
  have u3 := complete1 hp.on ok2.on
  have u4 := complete2 hp.on ok2.on
  have v1 := complete1 hp.on hq.on
  have v2 := complete2 hp.on hq.on
  have v3 := complete1 hq.on hs.on
  have v4 := complete2 hq.on hs.on
  have rx := ok3.x0; have ry := ok3.y0; have tx := ok4.x0; have ty := ok4.y0
  have h1 := hp.on; have h2 := hq.on; have h3 := hs.on
  obtain ⟨sAx, sAy⟩ := sA
  obtain ⟨sBx, sBy⟩ := sB
  obtain ⟨sLx, sLy⟩ := sL
  obtain ⟨sRx, sRy⟩ := sR
  clear ok1 ok2 ok3 ok4 hp hq hs
  unfold dd at *
  generalize padd (padd p q) s = PL at *
  generalize padd p (padd q s) = PR at *
  generalize padd p q = PA at *
  generalize padd q s = PB at *
  obtain ⟨x1, y1⟩ := p
  obtain ⟨x2, y2⟩ := q
  obtain ⟨x3, y3⟩ := s
  obtain ⟨xA, yA⟩ := PA
  obtain ⟨xB, yB⟩ := PB
  obtain ⟨xL, yL⟩ := PL
  obtain ⟨xR, yR⟩ := PR
  dsimp only at *
  have gx : Dv (((x1*y2+y1*x2)*(1-(cD*(x1*x2*y1*y2)))*y3+(y1*y2-cA*(x1*x2))*(1+(cD*(x1*x2*y1*y2)))*x3)*((1+(cD*(x2*x3*y2*y3)))*(1-(cD*(x2*x3*y2*y3)))+cD*(x2*y3+y2*x3)*(y2*y3-cA*(x2*x3))*x1*y1)-(x1*(y2*y3-cA*(x2*x3))*(1+(cD*(x2*x3*y2*y3)))+y1*(x2*y3+y2*x3)*(1-(cD*(x2*x3*y2*y3))))*((1+(cD*(x1*x2*y1*y2)))*(1-(cD*(x1*x2*y1*y2)))+cD*(x1*y2+y1*x2)*(y1*y2-cA*(x1*x2))*x3*y3)) := by
    rw [assoc_x x1 y1 x2 y2 x3 y3 cA cD]
    exact ((h1.mul _).add (h2.mul _)).add (h3.mul _)
  have gy : Dv (((y1*y2-cA*(x1*x2))*(1+(cD*(x1*x2*y1*y2)))*y3-cA*(x1*y2+y1*x2)*(1-(cD*(x1*x2*y1*y2)))*x3)*((1+(cD*(x2*x3*y2*y3)))*(1-(cD*(x2*x3*y2*y3)))-cD*(x2*y3+y2*x3)*(y2*y3-cA*(x2*x3))*x1*y1)-(y1*(y2*y3-cA*(x2*x3))*(1+(cD*(x2*x3*y2*y3)))-cA*x1*(x2*y3+y2*x3)*(1-(cD*(x2*x3*y2*y3))))*((1+(cD*(x1*x2*y1*y2)))*(1-(cD*(x1*x2*y1*y2)))-cD*(x1*y2+y1*x2)*(y1*y2-cA*(x1*x2))*x3*y3)) := by
    rw [assoc_y x1 y1 x2 y2 x3 y3 cA cD]
    exact ((h1.mul _).add (h2.mul _)).add (h3.mul _)
  clear h1 h2 h3
  generalize 1 + cD * (x1 * x2 * y1 * y2) = D1 at *
  generalize 1 - cD * (x1 * x2 * y1 * y2) = D2 at *
  generalize 1 + cD * (x2 * x3 * y2 * y3) = F1 at *
  generalize 1 - cD * (x2 * x3 * y2 * y3) = F2 at *
  generalize x1 * y2 + y1 * x2 = n1 at *
  generalize y1 * y2 - cA * (x1 * x2) = n2 at *
  generalize x2 * y3 + y2 * x3 = m1 at *
  generalize y2 * y3 - cA * (x2 * x3) = m2 at *
  -- e_L D1 D2 and e_R F1 F2
  have eL : Dv (cD * (xA * x3 * yA * y3) * (D1 * D2) - cD * n1 * n2 * x3 * y3) := ((sAx.mul (cD * x3 * y3 * (yA * D2))).add (sAy.mul (cD * x3 * y3 * n1))).eq (by grind)
  have eR : Dv (cD * (x1 * xB * y1 * yB) * (F1 * F2) - cD * m1 * m2 * x1 * y1) := ((sBx.mul (cD * x1 * y1 * (yB * F2))).add (sBy.mul (cD * x1 * y1 * m1))).eq (by grind)
  generalize cD * (xA * x3 * yA * y3) = eA at *
  generalize cD * (x1 * xB * y1 * yB) = eB at *
  -- the numerators
  have nLx : Dv (xL * (D1 * D2 + cD * n1 * n2 * x3 * y3) - (n1 * D2 * y3 + n2 * D1 * x3)) := ((((sLx.mul (D1 * D2)).add (eL.mul (-xL))).add (sAx.mul (D2 * y3))).add (sAy.mul (D1 * x3))).eq (by grind)
  have nRx : Dv (xR * (F1 * F2 + cD * m1 * m2 * x1 * y1) - (x1 * m2 * F1 + y1 * m1 * F2)) := ((((sRx.mul (F1 * F2)).add (eR.mul (-xR))).add (sBx.mul (F2 * y1))).add (sBy.mul (F1 * x1))).eq (by grind)
  have nLy : Dv (yL * (D1 * D2 - cD * n1 * n2 * x3 * y3) - (n2 * D1 * y3 - cA * n1 * D2 * x3)) := ((((sLy.mul (D1 * D2)).add (eL.mul yL)).add (sAy.mul (D1 * y3))).add (sAx.mul (-(cA * D2 * x3)))).eq (by grind)
  have nRy : Dv (yR * (F1 * F2 - cD * m1 * m2 * x1 * y1) - (y1 * m2 * F1 - cA * x1 * m1 * F2)) := ((((sRy.mul (F1 * F2)).add (eR.mul yR)).add (sBy.mul (F1 * y1))).add (sBx.mul (-(cA * F2 * x1)))).eq (by grind)
  have dLx : ¬ Dv (D1 * D2 + cD * n1 * n2 * x3 * y3) := ndv_eq (ndv_mul u1 (ndv_mul v1 v2)) ((eL.mul (-1)).eq (by grind))
  have dLy : ¬ Dv (D1 * D2 - cD * n1 * n2 * x3 * y3) := ndv_eq (ndv_mul u2 (ndv_mul v1 v2)) (eL.eq (by grind))
  have dRx : ¬ Dv (F1 * F2 + cD * m1 * m2 * x1 * y1) := ndv_eq (ndv_mul u3 (ndv_mul v3 v4)) ((eR.mul (-1)).eq (by grind))
  have dRy : ¬ Dv (F1 * F2 - cD * m1 * m2 * x1 * y1) := ndv_eq (ndv_mul u4 (ndv_mul v3 v4)) (eR.eq (by grind))
  clear eL eR sAx sAy sBx sBy sLx sLy sRx sRy u1 u2 u3 u4 v1 v2 v3 v4
  generalize D1 * D2 + cD * n1 * n2 * x3 * y3 = a1 at *
  generalize D1 * D2 - cD * n1 * n2 * x3 * y3 = a2 at *
  generalize F1 * F2 + cD * m1 * m2 * x1 * y1 = b1 at *
  generalize F1 * F2 - cD * m1 * m2 * x1 * y1 = b2 at *
  have kx : Dv (a1 * b1 * (xL - xR)) := ((nLx.mul b1).add ((nRx.mul (-a1)).add gx)).eq (by grind)
  have ky : Dv (a2 * b2 * (yL - yR)) := ((nLy.mul b2).add ((nRy.mul (-a2)).add gy)).eq (by grind)
  rw [eq_of_dv rx tx (kx.cancel (ndv_mul dLx dRx)), eq_of_dv ry ty (ky.cancel (ndv_mul dLy dRy))]
/-! ### Multiples -/
def PO : Pt := ⟨0, 1⟩
theorem PO_ok : Ok PO := ⟨by unfold PP PO; decide, by unfold PP PO; decide, by unfold On PO; exact Dv.zero.eq (by grind)⟩
theorem padd_zero {p : Pt} (hp : Ok p) : padd PO p = p := by
  refine sum_uniq PO_ok hp (padd_ok PO_ok hp) hp (padd_sum PO_ok hp) ⟨?_, ?_⟩
  · unfold dd PO; exact Dv.zero.eq (by grind)
  · unfold dd PO; exact Dv.zero.eq (by grind)
def pneg (p : Pt) : Pt := ⟨-p.x % PP, p.y⟩
theorem pneg_ok {p : Pt} (hp : Ok p) : Ok (pneg p) := by
  refine ⟨mod_r _, hp.y0, ?_⟩
  have m := dv_mod (-p.x)
  have h := hp.on
  unfold On pneg at *
  dsimp only
  generalize -p.x % PP = n at *
  exact (h.add (m.mul ((cA - cD * p.y * p.y) * (n - p.x)))).eq (by grind)
theorem padd_neg {p : Pt} (hp : Ok p) : padd p (pneg p) = PO := by
  have ok := pneg_ok hp
  refine sum_uniq hp ok (padd_ok hp ok) PO_ok (padd_sum hp ok) ?_
  have m := dv_mod (-p.x)
  have h := hp.on
  unfold On at h
  unfold pneg
  generalize -p.x % PP = n at *
  constructor
  · unfold dd PO; dsimp only; exact (m.mul (-p.y)).eq (by grind)
  · unfold dd PO; dsimp only; exact ((h.mul (-1)).add (m.mul (cA * p.x - cD * p.x * p.y * p.y))).eq (by grind)
def mu (p : Pt) : Nat → Pt
  | 0 => PO
  | k + 1 => padd (mu p k) p
theorem mu_ok {p : Pt} (hp : Ok p) : ∀ k, Ok (mu p k)
  | 0 => PO_ok
  | k + 1 => padd_ok (mu_ok hp k) hp
theorem mu_add {p : Pt} (hp : Ok p) (j : Nat) : ∀ k, padd (mu p j) (mu p k) = mu p (j + k)
  | 0 => by rw [padd_comm]; exact padd_zero (mu_ok hp j)
  | k + 1 => by
    show padd (mu p j) (padd (mu p k) p) = padd (mu p (j + k)) p
    rw [← padd_assoc (mu_ok hp j) (mu_ok hp k) hp, mu_add hp j k]
theorem mu_mul {p : Pt} (hp : Ok p) (m : Nat) : ∀ j, mu (mu p m) j = mu p (j * m)
  | 0 => by rw [Nat.zero_mul]; rfl
  | j + 1 => by
    show padd (mu (mu p m) j) (mu p m) = _
    rw [mu_mul hp m j, mu_add hp, Nat.succ_mul]
theorem mu_diff {p q : Pt} (hp : Ok p) (hq : Ok q) : padd (padd p q) (pneg p) = q := by
  rw [padd_comm p q, padd_assoc hq hp (pneg_ok hp), padd_neg hp, padd_comm, padd_zero hq]
theorem diff_y {p q r : Pt} (hp : Ok p) (hq : Ok q) (hr : r = padd p q) : Dv (q.y * (1 + dd p r) - (p.y * r.y + cA * (p.x * r.x))) := by
  have ok := padd_ok hp hq
  rw [← hr] at ok
  have s := padd_sum ok (pneg_ok hp)
  have e : padd r (pneg p) = q := by rw [hr]; exact mu_diff hp hq
  rw [e] at s
  have sy := s.y
  have m := dv_mod (-p.x)
  unfold dd pneg at sy
  unfold dd
  dsimp only at sy
  generalize -p.x % PP = n at *
  exact (sy.add (m.mul (cD * q.y * r.x * r.y * p.y - cA * r.x))).eq (by grind)
/-! ### The ladder's steps, as sums -/
structure Rep (x z y : Int) : Prop where
  e : Dv (x - z - (x + z) * y)
  n : ¬ Dv (x + z)
theorem Rep.mod {x z y : Int} (h : Rep x z y) : Rep (x % PP) (z % PP) y := by
  have a := dv_mod x
  have b := dv_mod z
  have he := h.e
  have hn := h.n
  generalize x % PP = x' at *
  generalize z % PP = z' at *
  exact ⟨((he.add (a.mul (1 - y))).add (b.mul (-1 - y))).eq (by grind), ndv_eq hn ((a.add b).eq (by grind))⟩
theorem dv_sq {a : Int} (h : Dv (a * a)) : Dv a := Classical.byContradiction fun hn => ndv_mul hn hn h
theorem rep_dbl {P : Pt} (hP : Ok P) {x z : Int} (h : Rep x z P.y) : Rep ((x + z) * (x + z) * ((x - z) * (x - z))) (((x + z) * (x + z) - (x - z) * (x - z)) * ((x + z) * (x + z) + ((x + z) * (x + z) - (x - z) * (x - z)) * 121665)) (padd P P).y := by
  have sy := (padd_sum hP hP).y
  have u2 := complete2 hP.on hP.on
  have hc := hP.on
  have he := h.e
  have hn := h.n
  have e1 := cA_eq
  have e2 := cD_eq
  unfold dd at sy
  unfold On at hc
  generalize (padd P P).y = Y at *
  obtain ⟨X, y⟩ := P
  dsimp only at *
  have hq : ¬ Dv (cA - cD * (y * y)) := fun hh => by
    by_cases hy : Dv y
    · exact ndv_A ((hh.add (hy.mul (cD * y))).eq (by grind))
    · exact not_sq2 cC y hy (((hh.mul (-1)).add (cC_sq.mul (-1))).eq (by grind))
  generalize x + z = s at *
  generalize x - z = d at *
  have c1 : Dv (4 * (s * s * (d * d) + (s * s - d * d) * (s * s + (s * s - d * d) * 121665)) - s * s * (s * s) * (cA - cD * (y * y)) * (1 - cD * (X * X * y * y))) :=
    ((hc.mul (s * s * (s * s) * cD * (y * y))).add (he.mul (-(cD * (2 * (s * s) - d * d - s * s * (y * y)) * (d + s * y))))).eq (by grind)
  have c2 : Dv (4 * (s * s * (d * d) - (s * s - d * d) * (s * s + (s * s - d * d) * 121665)) - s * s * (s * s) * (cA - cD * (y * y)) * (y * y - cA * (X * X))) :=
    ((hc.mul (s * s * (s * s) * cA)).add (he.mul ((8 * (s * s) + cD * (2 * (s * s) - d * d - s * s * (y * y))) * (d + s * y)))).eq (by grind)
  clear he hc e1 e2
  generalize s * s * (d * d) = x' at *
  generalize (s * s - d * d) * (s * s + (s * s - d * d) * 121665) = z' at *
  generalize 1 - cD * (X * X * y * y) = D2 at *
  have hs4 : ¬ Dv (s * s * (s * s) * (cA - cD * (y * y))) := ndv_mul (ndv_mul (ndv_mul hn hn) (ndv_mul hn hn)) hq
  generalize s * s * (s * s) * (cA - cD * (y * y)) = q at *
  refine ⟨?_, fun hh => ?_⟩
  · exact (((((c2.mul D2).add (c1.mul (-(Y * D2)))).add (sy.mul (-(q * D2)))).eq (show 4 * D2 * (x' - z' - (x' + z') * Y) = _ by grind)).cancel (ndv_mul ndv_4 u2))
  · exact ndv_mul hs4 u2 (((hh.mul 4).add (c1.mul (-1))).eq (by grind))
theorem rep_add {P1 P2 : Pt} (h1 : Ok P1) (h2 : Ok P2) {u y0 : Int} (hu : Dv (u * (1 - y0) - (1 + y0))) (hy : ¬ Dv (1 - y0)) (hu0 : ¬ Dv u) (hY : Dv (y0 * (1 + dd P1 P2) - (P1.y * P2.y + cA * (P1.x * P2.x))))
    {X Z S T : Int} (r1 : Rep X Z P1.y) (r2 : Rep S T P2.y) :
    Rep (((X + Z) * (S - T) + (X - Z) * (S + T)) * ((X + Z) * (S - T) + (X - Z) * (S + T))) (u * (((X + Z) * (S - T) - (X - Z) * (S + T)) * ((X + Z) * (S - T) - (X - Z) * (S + T)))) (padd P1 P2).y := by
  have sy := (padd_sum h1 h2).y
  have v1 := complete1 h1.on h2.on
  have v2 := complete2 h1.on h2.on
  have c1 := h1.on
  have c2 := h2.on
  have he1 := r1.e
  have he2 := r2.e
  have hn1 := r1.n
  have hn2 := r2.n
  unfold dd at sy hY
  unfold On at c1 c2
  generalize (padd P1 P2).y = y3 at *
  obtain ⟨x1, y1⟩ := P1
  obtain ⟨x2, y2⟩ := P2
  dsimp only at *
  clear h1 h2 r1 r2
  have gI : Dv ((1-(cD*(x1*x2*y1*y2))-(y1*y2-cA*(x1*x2)))*(1+(cD*(x1*x2*y1*y2))-(y1*y2+cA*(x1*x2)))*((y1+y2)*(y1+y2))-(1-(cD*(x1*x2*y1*y2))+(y1*y2-cA*(x1*x2)))*(1+(cD*(x1*x2*y1*y2))+(y1*y2+cA*(x1*x2)))*((y2-y1)*(y2-y1))) := by
    rw [dadd_id x1 y1 x2 y2 cA cD]
    exact (c1.mul _).add (c2.mul _)
  have hny : Dv y1 → Dv y2 → Dv (1 + y0) := fun k1 k2 => by
    have t1 : Dv (cA * x1 * x1 - 1) := (c1.add (k1.mul (cD * x1 * x1 * y1 - y1))).eq (by grind)
    have t2 : Dv (cA * x2 * x2 - 1) := (c2.add (k2.mul (cD * x2 * x2 * y2 - y2))).eq (by grind)
    have t3 : Dv (y0 - cA * (x1 * x2)) := ((hY.add (k1.mul (y2 - y0 * cD * x1 * x2 * y2)))).eq (by grind)
    have t4 : Dv ((1 - y0) * (1 + y0)) := (((t3.mul (-(y0 + cA * (x1 * x2)))).add (t1.mul (-(cA * x2 * x2)))).add (t2.mul (-1))).eq (by grind)
    exact t4.cancel hy
  generalize cD * (x1 * x2 * y1 * y2) = e at *
  generalize y1 * y2 - cA * (x1 * x2) = nn at *
  generalize y1 * y2 + cA * (x1 * x2) = mm at *
  have gJ : Dv ((1 - e) * (1 + e) * ((1 - y3) * (1 - y0) * ((y1 + y2) * (y1 + y2)) - (1 + y3) * (1 + y0) * ((y2 - y1) * (y2 - y1)))) := by
    refine ((gI.add (sy.mul (-((1 + e) * (1 - y0) * ((y1 + y2) * (y1 + y2)) + (1 + e) * (1 + y0) * ((y2 - y1) * (y2 - y1)))))).add (hY.mul (-((1 - e - nn) * ((y1 + y2) * (y1 + y2)) + (1 - e + nn) * ((y2 - y1) * (y2 - y1)))))).eq ?_
    grind
  have gK := gJ.cancel (ndv_mul v2 v1)
  clear gI gJ c1 c2 hY sy v1 v2
  generalize X + Z = s1 at *
  generalize X - Z = d1 at *
  generalize S + T = s2 at *
  generalize S - T = d2 at *
  have ha : Dv (s1 * d2 + d1 * s2 - s1 * s2 * (y1 + y2)) := ((he1.mul s2).add (he2.mul s1)).eq (by grind)
  have hb : Dv (s1 * d2 - d1 * s2 - s1 * s2 * (y2 - y1)) := ((he1.mul (-s2)).add (he2.mul s1)).eq (by grind)
  have hst := ndv_mul hn1 hn2
  generalize s1 * s2 = st at *
  generalize s1 * d2 + d1 * s2 = G at *
  generalize s1 * d2 - d1 * s2 = H at *
  have key : Dv (G * G - u * (H * H) - (G * G + u * (H * H)) * y3) := by
    have : Dv ((1 - y0) * (G * G - u * (H * H) - (G * G + u * (H * H)) * y3)) := by
      refine ((((gK.mul (st * st)).add (hu.mul (-(H * H * (1 + y3))))).add (ha.mul ((1 - y0) * (1 - y3) * (G + st * (y1 + y2))))).add (hb.mul (-((1 + y0) * (1 + y3) * (H + st * (y2 - y1)))))).eq ?_
      grind
    exact this.cancel hy
  refine ⟨key, fun hh => ?_⟩
  have k1 : Dv (2 * (G * G)) := ((hh.mul (1 + y3)).add key).eq (by grind)
  have k2 := dv_sq (k1.cancel ndv_2)
  have k3 : Dv (u * (H * H)) := (hh.add (k2.mul (-G))).eq (by grind)
  have k4 := dv_sq (k3.cancel hu0)
  have k5 : Dv (st * (y1 + y2)) := (k2.add (ha.mul (-1))).eq (by grind)
  have k6 : Dv (st * (y2 - y1)) := (k4.add (hb.mul (-1))).eq (by grind)
  have k7 := k5.cancel hst
  have k8 := k6.cancel hst
  have k9 : Dv y2 := Dv.cancel ((k7.add k8).eq (show 2 * y2 = _ by grind)) ndv_2
  have k10 : Dv y1 := (k7.add (k9.mul (-1))).eq (by grind)
  have k11 := hny k10 k9
  have k12 : Dv ((1 - y0) * u) := (hu.add k11).eq (by grind)
  exact hu0 (k12.cancel hy)

end Go.Proofs.Ytfklojheogidpaa
