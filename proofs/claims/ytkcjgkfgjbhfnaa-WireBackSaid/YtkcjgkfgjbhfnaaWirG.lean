import Derived.Test.YtkcjgkfgjbhfnaaWirC
set_option linter.unusedVariables false
set_option linter.unusedSimpArgs false
namespace Go.Proofs.Ytkcjgkfgjbhfnaa
open Go.RowKit Go.Proofs.YtkcjgkfgjbhfnaaW.PrintWords Go.Proofs.YtkcjgkfgjbhfnaaW.PrintLast Go.Proofs.YtkcjgkfgjbhfnaaW.PrintMore

/-! ### Load -/
def le : List Int → Int
  | [] => 0
  | x :: l => x + 256 * le l
theorem le_range (l : List Int) (hb : Bytes l) : 0 ≤ le l ∧ le l < 256 ^ l.length := by
  induction l with
  | nil => simp [le]
  | cons x l ih =>
    have h1 := hb x (by simp)
    have h2 := ih (fun y hy => hb y (by simp [hy]))
    unfold Byte at h1
    simp only [le, List.length_cons, Int.pow_succ]
    omega
theorem or64 (i : Nat) (hi : i ≤ 64) (x z : Int) (hx : 0 ≤ x) (hx1 : x < 2 ^ i) (hx2 : x < 2 ^ 64) (hz : 0 ≤ z) (hz1 : z % 2 ^ i = 0) (hz2 : z < 2 ^ 64) : bits .or .u64 x z = x + z := by
  have h : bits .or .u64 x z = bits .or .u64 z x := by simp only [bits, BitVec.or_comm]
  rw [h, bits_join .u64 64 (by decide) (fun n h0 h1 => IntWalk.u64_in n ⟨h0, by omega⟩) i z x hz hz1 hz2 hx hx1 hx2]
  omega
theorem load8 (l : List Int) (hl : l.length = 8) (hb : Bytes l) : Wr.words_Load.f 10 l = some (le l) := by
  match l, hl with
  | [a, b, c, d, e, f, g, h], _ =>
    have k_a : 0 ≤ a ∧ a ≤ 255 := hb a (by simp)
    have k_b : 0 ≤ b ∧ b ≤ 255 := hb b (by simp)
    have k_c : 0 ≤ c ∧ c ≤ 255 := hb c (by simp)
    have k_d : 0 ≤ d ∧ d ≤ 255 := hb d (by simp)
    have k_e : 0 ≤ e ∧ e ≤ 255 := hb e (by simp)
    have k_f : 0 ≤ f ∧ f ≤ 255 := hb f (by simp)
    have k_g : 0 ≤ g ∧ g ≤ 255 := hb g (by simp)
    have k_h : 0 ≤ h ∧ h ≤ 255 := hb h (by simp)
    clear hb
    simp [Wr.words_Load.f, Wr.words_Load.l0, mn, mx, shl, rd, wrap64, IntKind.wrap, IntKind.signed, IntKind.bits, le]
    rw [show a % 18446744073709551616 = a by omega, show b % 18446744073709551616 * 256 % 18446744073709551616 = b * 256 by omega, show c % 18446744073709551616 * 65536 % 18446744073709551616 = c * 65536 by omega, show d % 18446744073709551616 * 16777216 % 18446744073709551616 = d * 16777216 by omega, show e % 18446744073709551616 * 4294967296 % 18446744073709551616 = e * 4294967296 by omega, show f % 18446744073709551616 * 1099511627776 % 18446744073709551616 = f * 1099511627776 by omega, show g % 18446744073709551616 * 281474976710656 % 18446744073709551616 = g * 281474976710656 by omega, show h % 18446744073709551616 * 72057594037927936 % 18446744073709551616 = h * 72057594037927936 by omega]
    rw [or64 0 (by omega) (0) a (by omega) (by omega) (by omega) (by omega) (by omega) (by omega)]
    rw [or64 8 (by omega) (0 + a) (b * 256) (by omega) (by omega) (by omega) (by omega) (by omega) (by omega)]
    rw [or64 16 (by omega) (0 + a + b * 256) (c * 65536) (by omega) (by omega) (by omega) (by omega) (by omega) (by omega)]
    rw [or64 24 (by omega) (0 + a + b * 256 + c * 65536) (d * 16777216) (by omega) (by omega) (by omega) (by omega) (by omega) (by omega)]
    rw [or64 32 (by omega) (0 + a + b * 256 + c * 65536 + d * 16777216) (e * 4294967296) (by omega) (by omega) (by omega) (by omega) (by omega) (by omega)]
    rw [or64 40 (by omega) (0 + a + b * 256 + c * 65536 + d * 16777216 + e * 4294967296) (f * 1099511627776) (by omega) (by omega) (by omega) (by omega) (by omega) (by omega)]
    rw [or64 48 (by omega) (0 + a + b * 256 + c * 65536 + d * 16777216 + e * 4294967296 + f * 1099511627776) (g * 281474976710656) (by omega) (by omega) (by omega) (by omega) (by omega) (by omega)]
    rw [or64 56 (by omega) (0 + a + b * 256 + c * 65536 + d * 16777216 + e * 4294967296 + f * 1099511627776 + g * 281474976710656) (h * 72057594037927936) (by omega) (by omega) (by omega) (by omega) (by omega) (by omega)]
    omega
theorem load4 (l : List Int) (hl : l.length = 4) (hb : Bytes l) : Wr.words_Load.f 10 l = some (le l) := by
  match l, hl with
  | [a, b, c, d], _ =>
    have k_a : 0 ≤ a ∧ a ≤ 255 := hb a (by simp)
    have k_b : 0 ≤ b ∧ b ≤ 255 := hb b (by simp)
    have k_c : 0 ≤ c ∧ c ≤ 255 := hb c (by simp)
    have k_d : 0 ≤ d ∧ d ≤ 255 := hb d (by simp)
    clear hb
    simp [Wr.words_Load.f, Wr.words_Load.l0, mn, mx, shl, rd, wrap64, IntKind.wrap, IntKind.signed, IntKind.bits, le]
    rw [show a % 18446744073709551616 = a by omega, show b % 18446744073709551616 * 256 % 18446744073709551616 = b * 256 by omega, show c % 18446744073709551616 * 65536 % 18446744073709551616 = c * 65536 by omega, show d % 18446744073709551616 * 16777216 % 18446744073709551616 = d * 16777216 by omega]
    rw [or64 0 (by omega) (0) a (by omega) (by omega) (by omega) (by omega) (by omega) (by omega)]
    rw [or64 8 (by omega) (0 + a) (b * 256) (by omega) (by omega) (by omega) (by omega) (by omega) (by omega)]
    rw [or64 16 (by omega) (0 + a + b * 256) (c * 65536) (by omega) (by omega) (by omega) (by omega) (by omega) (by omega)]
    rw [or64 24 (by omega) (0 + a + b * 256 + c * 65536) (d * 16777216) (by omega) (by omega) (by omega) (by omega) (by omega) (by omega)]
    omega
theorem cload {A : Option Addr} {c n : Nat} {l : List Int} (w : World) (h : Rd w A c l) (hl : l.length = n) (hn : n = 4 ∨ n = 8) : Calls Try.prog 38 #[.slice A n c] w fun e w' => e = .returned (.int .u64 (le l)) ∧ Below w.heap.size w w' := by
  have := Wr.words_Load.calls 10 A c l (le l) w h.r h.c (by rcases hn with e | e <;> subst e; exact load4 l hl h.b; exact load8 l hl h.b)
  rwa [hl] at this
/-- b[lo:hi] -/
theorem Rd.mid {ad : Addr} {c : Nat} {l : List Int} {w : World} (h : Rd w (some ad) c l) (lo hi : Nat) (h1 : lo ≤ hi) (h2 : hi ≤ l.length) (hc : lo < c) : Rd w (some (ad.add lo)) (c - lo) ((l.take hi).drop lo) := by
  have := Kd.C_mid h.r h1 h2 h.c
  rw [if_neg (by omega)] at this
  exact ⟨by simpa [show (Kd.int IntKind.u8).sz = 1 from rfl] using this, by have := h.c; simp; omega, fun x hx => h.b x (List.mem_of_mem_take (List.mem_of_mem_drop hx))⟩
/-- b[lo:] -/
theorem Rd.from {ad : Addr} {c : Nat} {l : List Int} {w : World} (h : Rd w (some ad) c l) (lo : Nat) (h2 : lo ≤ l.length) (hc : lo < c) : Rd w (some (ad.add lo)) (c - lo) (l.drop lo) := by
  have := Kd.C_drop h.r h2 h.c
  rw [if_neg (by omega)] at this
  exact ⟨by simpa [show (Kd.int IntKind.u8).sz = 1 from rfl] using this, by have := h.c; simp; omega, fun x hx => h.b x (List.mem_of_mem_drop hx)⟩
theorem Rd.at {w : World} {A : Option Addr} {c : Nat} {l : List Int} (h : Rd w A c l) (hl : 0 < l.length) : ∃ ad, A = some ad ∧ ad.block < w.heap.size ∧ ∀ j, j < l.length → w.cell? (ad.add j) = some (.int .u8 (l.getD j 0)) := by
  obtain ⟨ad, e, hx⟩ := (Kd.reads_of_C (d := (0 : Int)) h.r).2.2 hl
  exact ⟨ad, e, World.block_lt_of_cell? w _ (hx 0 hl), hx⟩

/-! ### What bytes are a packet -/
def zeroPk : Pk := ⟨0, 0, 0, 0, 0, 0, [], 0, []⟩
def parse (l : List Int) : Pk :=
  if l.getD 0 0 = 1 then ⟨1, le ((l.take 5).drop 1), le ((l.take 9).drop 5), l.getD 9 0, l.getD 10 0, l.getD 11 0, (l.take 28).drop 12, 0, l.drop 28⟩
  else if l.getD 0 0 = 2 then ⟨2, 0, le ((l.take 5).drop 1), 0, 0, 0, l.drop 5, 0, []⟩
  else ⟨l.getD 0 0, 0, le ((l.take 5).drop 1), 0, 0, 0, [], le ((l.take 13).drop 5), l.drop 13⟩
def Form (l : List Int) : Prop := (l.getD 0 0 = 1 ∧ 28 < l.length) ∨ (l.getD 0 0 = 2 ∧ l.length = 21) ∨ ((l.getD 0 0 = 3 ∨ l.getD 0 0 = 4) ∧ 13 < l.length)
instance (l : List Int) : Decidable (Form l) := by unfold Form; infer_instance
def good (l : List Int) : Bool := decide (l.length ≤ 1200 ∧ l.length ≠ 0 ∧ Form l) && mayB (parse l)
def errn (l : List Int) : Int := if 1200 < l.length then 14 else if l.length = 0 then 13 else if good l = true then 0 else 40
def getP (l : List Int) : Pk := if good l = true then parse l else zeroPk
end Go.Proofs.Ytkcjgkfgjbhfnaa
