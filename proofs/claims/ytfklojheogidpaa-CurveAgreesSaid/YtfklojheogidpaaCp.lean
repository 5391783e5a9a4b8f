import Derived.Test.YtfklojheogidpaaCK
set_option linter.unusedVariables false
set_option linter.unusedSimpArgs false
namespace Go.Proofs.Ytfklojheogidpaa
open Go.RowKit Go.Proofs.YtfklojheogidpaaW.PrintWords

/-! ### The ladder, in rests -/
structure St where
  x : Int
  z : Int
  s : Int
  t : Int
def St.turn (b : Bool) (p : St) : St := if b = true then ⟨p.s, p.t, p.x, p.z⟩ else p
def St.step (u : Int) (p : St) : St :=
  let sum := p.x + p.z
  let diff := p.x - p.z
  let a := sum * sum
  let b := diff * diff
  let e := a - b
  let c := sum * (p.s - p.t)
  let d := diff * (p.s + p.t)
  ⟨a * b % PP, e * (a + e * 121665) % PP, (c + d) * (c + d) % PP, u * ((c - d) * (c - d)) % PP⟩
/-- The bit at place i of bytes, the lowest first. -/
def bitAt (n : List Int) (i : Nat) : Bool := n.getD (i / 8) 0 / 2 ^ (i % 8) % 2 == 1
/-- The ladder's pair after k rounds. -/
def lad (n : List Int) (u : Int) : Nat → St
  | 0 => ⟨1, 0, u, 1⟩
  | k + 1 => (((lad n u k).turn (bitAt n (254 - k))).step u).turn (bitAt n (254 - k))
def clampL (k : List Int) : List Int := (k.set 0 (k.getD 0 0 / 8 * 8)).set 31 (k.getD 31 0 % 64 + 64)
def ladN (k u : List Int) : St := lad (clampL k) (decV u) 255
/-- A number of 32 bytes times a point. -/
def smul (k u : List Int) : List Int := D ((ladN k u).x * (ladN k u).z ^ E0)
/-- What wire and curve tell: bytes and a code. -/
def scalO (k u : List Int) : List Int × Int := if k.length = 32 ∧ u.length = 32 then (smul k u, 0) else ([], 1)

theorem N.mod {x a : Int} (h : N x a) : N x (a % PP) := ⟨h.r, h.m.trans (by unfold R; rw [Int.emod_emod_of_dvd _ (Int.dvd_refl _)])⟩
theorem Sl.mod {w : World} {A : Option Addr} {c : Nat} {u : Int} (h : Sl w A c u) : Sl w A c (u % PP) := ⟨by rw [D_mod]; exact h.1, h.2⟩

/-- The program's pair stands for the ladder's. -/
structure NS (x z s t : Int) (p : St) : Prop where
  x : N x p.x
  z : N z p.z
  s : N s p.s
  t : N t p.t
theorem smul_length (k u : List Int) : (smul k u).length = 32 := D_length _
theorem smul_bytes (k u : List Int) : Bytes (smul k u) := D_bytes _
theorem clampL_length (k : List Int) : (clampL k).length = k.length := by simp [clampL]
theorem clampL_bytes (k : List Int) (h : Bytes k) : Bytes (clampL k) := by
  have hb := fun i => h.get i
  intro x hx
  unfold clampL at hx
  rcases List.mem_or_eq_of_mem_set hx with h1 | h1
  · rcases List.mem_or_eq_of_mem_set h1 with h2 | h2
    · exact h x h2
    · have := hb 0; omega
  · have := hb 31; omega
theorem clampL_twice (k : List Int) (h : Bytes k) (hl : k.length = 32) : clampL (clampL k) = clampL k := by
  have g0 : (clampL k).getD 0 0 = k.getD 0 0 / 8 * 8 := by
    unfold clampL
    rw [gset_ne (by omega), gset_self (by omega)]
  have g31 : (clampL k).getD 31 0 = k.getD 31 0 % 64 + 64 := by
    unfold clampL
    rw [gset_self (by simp; omega)]
  have e : clampL (clampL k) = ((clampL k).set 0 ((clampL k).getD 0 0 / 8 * 8)).set 31 ((clampL k).getD 31 0 % 64 + 64) := rfl
  rw [e, g0, g31, show k.getD 0 0 / 8 * 8 / 8 * 8 = k.getD 0 0 / 8 * 8 by omega, show (k.getD 31 0 % 64 + 64) % 64 + 64 = k.getD 31 0 % 64 + 64 by omega]
  unfold clampL
  rw [List.set_comm _ _ (show (31 : Nat) ≠ 0 by omega), List.set_set, List.set_set]
end Go.Proofs.Ytfklojheogidpaa
