import Derived.Test.YtfklojheogidpaaCp
set_option linter.unusedVariables false
set_option linter.unusedSimpArgs false
namespace Go.Proofs.Ytfklojheogidpaa
open Go.RowKit Go.Proofs.YtfklojheogidpaaW.PrintWords
def powm (n : Nat) : Nat → Nat → Nat → Nat
  | 0, _, _ => 1 % n
  | f + 1, b, e => if e = 0 then 1 % n else if e % 2 = 1 then b * powm n f (b * b % n) (e / 2) % n else powm n f (b * b % n) (e / 2) % n
theorem powm_eq (n f : Nat) : ∀ b e, e < 2 ^ f → powm n f b e % n = b ^ e % n := by
  induction f with
  | zero => intro b e h; simp at h; subst h; simp [powm]
  | succ f ih =>
    intro b e h
    rw [Nat.pow_succ] at h
    have hi := ih (b * b % n) (e / 2) (by omega)
    rw [← Nat.pow_mod (b * b)] at hi
    rw [powm]
    split
    · next h0 => subst h0; simp
    · split
      · next h1 =>
        rw [Nat.mod_mod, Nat.mul_mod, hi, ← Nat.mul_mod]
        have e2 : e = 2 * (e / 2) + 1 := by omega
        have : b ^ e = b * (b * b) ^ (e / 2) := by
          conv => lhs; rw [e2]
          rw [Nat.pow_succ, Nat.pow_mul, Nat.pow_two, Nat.mul_comm]
        rw [this]
      · next h1 =>
        rw [Nat.mod_mod, hi]
        have e2 : e = 2 * (e / 2) := by omega
        have : b ^ e = (b * b) ^ (e / 2) := by
          conv => lhs; rw [e2]
          rw [Nat.pow_mul, Nat.pow_two]
        rw [this]


/-! ### Nine times nine, worked out -/
def frc {α : Type} (n : Nat) (k : Nat → α) : α := Nat.rec (k 0) (fun m _ => k (m + 1)) n
theorem frc_eq {α : Type} (n : Nat) (k : Nat → α) : frc n k = k n := by cases n <;> rfl
def frcI {α : Type} (x : Int) (k : Int → α) : α := match x with
  | .ofNat n => frc n fun m => k (.ofNat m)
  | .negSucc n => frc n fun m => k (.negSucc m)
theorem frcI_eq {α : Type} (x : Int) (k : Int → α) : frcI x k = k x := by cases x <;> simp only [frcI, frc_eq]
def stepF {α : Type} (u : Int) (p : St) (k : St → α) : α :=
  frcI (p.x + p.z) fun sum => frcI (p.x - p.z) fun diff => frcI (sum * sum) fun a => frcI (diff * diff) fun b => frcI (a - b) fun e => frcI (sum * (p.s - p.t)) fun c => frcI (diff * (p.s + p.t)) fun d =>
  frcI (a * b % PP) fun x => frcI (e * (a + e * 121665) % PP) fun z => frcI ((c + d) * (c + d) % PP) fun s => frcI (u * ((c - d) * (c - d)) % PP) fun t => k ⟨x, z, s, t⟩
theorem stepF_eq {α : Type} (u : Int) (p : St) (k : St → α) : stepF u p k = k (p.step u) := by simp only [stepF, frcI_eq]; rfl
def ladF {α : Type} (u : Int) : List Bool → St → (St → α) → α
  | [], p, k => k p
  | b :: bs, p, k => stepF u (p.turn b) fun q => ladF u bs (q.turn b) k
theorem ladF_eq {α : Type} (n : List Int) (u : Int) (k : St → α) : ∀ (bs : List Bool) (i : Nat), (∀ j, j < bs.length → bs[j]? = some (bitAt n (254 - (i + j)))) → ladF u bs (lad n u i) k = k (lad n u (i + bs.length)) := by
  intro bs
  induction bs with
  | nil => intro i _; rfl
  | cons b bs ih =>
    intro i h
    have h0 := h 0 (by simp)
    rw [List.getElem?_cons_zero, Nat.add_zero] at h0
    cases h0
    have := ih (i + 1) (fun j hj => by
      have := h (j + 1) (by simp; omega)
      rw [List.getElem?_cons_succ] at this
      rw [this, show i + 1 + j = i + (j + 1) by omega])
    rw [ladF, stepF_eq]
    rw [show i + (bitAt n (254 - i) :: bs).length = i + 1 + bs.length by simp; omega, ← this]
    rfl
def bits99 : List Bool := [true, false, false, false, false, false, false, false, false, false, false, false, false, false, false, false, false, false, false, false, false, false, false, false, false, false, false, false, false, false, false, false, false, false, false, false, false, false, false, false, false, false, false, false, false, false, false, false, false, false, false, false, false, false, false, false, false, false, false, false, false, false, false, false, false, false, false, false, false, false, false, false, false, false, false, false, false, false, false, false, false, false, false, false, false, false, false, false, false, false, false, false, false, false, false, false, false, false, false, false, false, false, false, false, false, false, false, false, false, false, false, false, false, false, false, false, false, false, false, false, false, false, false, false, false, false, false, false, false, false, false, false, false, false, false, false, false, false, false, false, false, false, false, false, false, false, false, false, false, false, false, false, false, false, false, false, false, false, false, false, false, false, false, false, false, false, false, false, false, false, false, false, false, false, false, false, false, false, false, false, false, false, false, false, false, false, false, false, false, false, false, false, false, false, false, false, false, false, false, false, false, false, false, false, false, false, false, false, false, false, false, false, false, false, false, false, false, false, false, false, false, false, false, false, false, false, false, false, false, false, false, false, false, false, false, false, false, false, false, false, false, false, false, false, false, false, false, false, false, false, false, true, false, false, false]
def fin99 : St := ⟨51308241408682788594860346115987951272351162540477535997429117057761542978319, 47154794169143379669309714065436086811230587292877743942666655413522937240343, 48684302112648453340776453877951235438069666527508432418671490419372981879472, 14183203961276989654069734536689318038161764022992892782611580868881078690949⟩
def n99 : List Int := [8, 0, 0, 0, 0, 0, 0, 0, 0, 0, 0, 0, 0, 0, 0, 0, 0, 0, 0, 0, 0, 0, 0, 0, 0, 0, 0, 0, 0, 0, 0, 64]
def nineL : List Int := [9, 0, 0, 0, 0, 0, 0, 0, 0, 0, 0, 0, 0, 0, 0, 0, 0, 0, 0, 0, 0, 0, 0, 0, 0, 0, 0, 0, 0, 0, 0, 0]
theorem n99_eq : clampL nineL = n99 := by decide +kernel
theorem bits99_ok : ∀ j, j < 255 → bits99[j]? = some (bitAt n99 (254 - j)) := by
  have : ∀ j : Fin 255, bits99[j.val]? = some (bitAt n99 (254 - j.val)) := by decide +kernel
  exact fun j hj => this ⟨j, hj⟩
def sameSt (p q : St) : Bool := decide (p.x = q.x) && (decide (p.z = q.z) && (decide (p.s = q.s) && decide (p.t = q.t)))
theorem sameSt_eq {p q : St} (h : sameSt p q = true) : p = q := by
  simp only [sameSt, Bool.and_eq_true, decide_eq_true_eq] at h
  cases p; cases q
  simp only [St.mk.injEq]
  exact h
set_option maxRecDepth 100000 in
theorem lad99 : lad n99 9 255 = fin99 := by
  have h := ladF_eq n99 9 (fun q => sameSt q fin99) bits99 0 (fun j hj => by rw [Nat.zero_add]; exact bits99_ok j hj)
  have h2 : ladF 9 bits99 (lad n99 9 0) (fun q => sameSt q fin99) = true := by decide +kernel
  rw [h2] at h
  exact sameSt_eq h.symm
theorem decV_nine : decV nineL = 9 := by decide +kernel
def r99 : Int := 54815864700279561125610391355931320566748822376190344121911385527384361806914
theorem pow_R (z zi E : Nat) (h : zi % 57896044618658097711785492504343953926634992332820282019728792003956564819949 = z ^ E % 57896044618658097711785492504343953926634992332820282019728792003956564819949) : R ((z : Int) ^ E) (zi : Int) := by
  unfold R
  have e : PP = ((57896044618658097711785492504343953926634992332820282019728792003956564819949 : Nat) : Int) := rfl
  rw [← Int.natCast_pow, e, ← Int.natCast_emod, ← Int.natCast_emod, h]
theorem r99_ok : R (fin99.x * fin99.z ^ E0) r99 := by
  have h := powm_eq 57896044618658097711785492504343953926634992332820282019728792003956564819949 255 47154794169143379669309714065436086811230587292877743942666655413522937240343 E0 (by decide +kernel)
  have h2 : powm 57896044618658097711785492504343953926634992332820282019728792003956564819949 255 47154794169143379669309714065436086811230587292877743942666655413522937240343 E0 = 39574951172635768184342202644803103184672000961821277324233674078280658367447 := by decide +kernel
  rw [h2] at h
  have h3 := pow_R _ _ _ h
  have e : fin99.z = ((47154794169143379669309714065436086811230587292877743942666655413522937240343 : Nat) : Int) := rfl
  rw [e]
  refine ((R.refl fin99.x).mul h3).trans ?_
  unfold R
  decide +kernel
theorem smul99 : smul nineL nineL = D r99 := by
  unfold smul ladN
  rw [n99_eq, decV_nine, lad99]
  exact D_eq r99_ok
theorem smul99_ends : (D r99).getD 0 0 = 66 ∧ (D r99).getD 31 0 = 121 := by decide +kernel
end Go.Proofs.Ytfklojheogidpaa
