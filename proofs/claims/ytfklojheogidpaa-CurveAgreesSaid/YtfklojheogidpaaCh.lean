import Derived.Test.YtfklojheogidpaaCr
import Derived.Laws.BitsAllLaws
set_option linter.unusedVariables false
set_option linter.unusedSimpArgs false
namespace Go.Proofs.Ytfklojheogidpaa
open Go.RowKit Go.Proofs.YtfklojheogidpaaW.PrintWords Go.Proofs.YtfklojheogidpaaW.PrintLast Go.Proofs.YtfklojheogidpaaW.PrintMore

/-! ### Are all bytes 0? -/
def allz (l : List Int) : Bool := l.all (fun x => x == 0)
theorem or_zero (x y : Int) (hx : 0 ≤ x ∧ x < 256) (hy : 0 ≤ y ∧ y < 256) : (0 ≤ bits .or .u8 x y ∧ bits .or .u8 x y < 256) ∧ (bits .or .u8 x y = 0 ↔ x = 0 ∧ y = 0) := by
  obtain ⟨a, rfl⟩ := Int.eq_ofNat_of_zero_le hx.1
  obtain ⟨b, rfl⟩ := Int.eq_ofNat_of_zero_le hy.1
  rw [u8_or_nat a b (by omega) (by omega)]
  have hlt : a ||| b < 2 ^ 8 := Nat.or_lt_two_pow (by omega) (by omega)
  refine ⟨⟨by omega, by omega⟩, ?_⟩
  constructor
  · intro h
    have h2 : a ||| b = 0 := by omega
    have := Nat.or_eq_zero_iff.1 h2
    omega
  · rintro ⟨h1, h2⟩
    have e1 : a = 0 := by omega
    have e2 : b = 0 := by omega
    subst e1 e2
    rfl
theorem gather_l (l : List Int) (hl : Bytes l) (hn : l.length ≤ 100000) : ∀ m i : Nat, i + m = l.length → ∀ x : Int, 0 ≤ x ∧ x < 256 → ∃ r, Ends (fun k => Ref.words_gather.l0 k x l (l.length : Int) (i : Int)) r ∧ (r = 0 ↔ x = 0 ∧ allz (l.drop i) = true) := by
  intro m
  induction m with
  | zero =>
    intro i hi x hx
    refine ⟨x, Ends.now (fun k => ?_), ?_⟩
    · have : ¬ ((i : Int) < (l.length : Int)) := by omega
      simp only [Ref.words_gather.l0, if_neg this]
    · rw [List.drop_of_length_le (by omega)]
      simp [allz]
  | succ m ih =>
    intro i hi x hx
    have hy := hl.get i
    have ho := or_zero x (l.getD i 0) hx hy
    obtain ⟨r, h1, h2⟩ := ih (i + 1) (by omega) _ ho.1
    refine ⟨r, h1.succ (fun k => ?_), ?_⟩
    · have a1 : (i : Int) < (l.length : Int) := by omega
      have a2 : (0 : Int) ≤ (i : Int) := by omega
      have a3 : wrap64 ((i : Int) + 1) = ((i + 1 : Nat) : Int) := by unfold wrap64; omega
      have a4 : rd l (i : Int) = l.getD i 0 := by simp [rd]
      simp only [Ref.words_gather.l0, if_pos a1, if_pos a2, a3, a4]
    · have e : l.getD i 0 = l[i]'(by omega) := by rw [List.getD_eq_getElem?_getD, List.getElem?_eq_getElem (by omega)]; rfl
      rw [h2, ho.2, List.drop_eq_getElem_cons (show i < l.length by omega), e]
      unfold allz
      rw [List.all_cons, Bool.and_eq_true, beq_iff_eq]
      exact ⟨fun h => ⟨h.1.1, h.1.2, h.2⟩, fun h => ⟨⟨h.1, h.2.1⟩, h.2.2⟩⟩
theorem zero_any (l : List Int) (hl : Bytes l) (hn : l.length ≤ 100000) {A : Option Addr} {c : Nat} (w : World) (h : Kd.C (Kd.int .u8) w A l.length l) (hc : l.length ≤ c) :
    Calls Try.prog 62 #[.slice A l.length c] w fun e w' => e = .returned (.bool (allz l)) ∧ Below w.heap.size w w' := by
  obtain ⟨r, ⟨k0, hk⟩, h2⟩ := gather_l l hl hn l.length 0 (by omega) 0 (by omega)
  have hz : Ref.words_Zero.f k0 l = some (allz l) := by
    unfold Ref.words_Zero.f Ref.words_gather.f
    have := hk k0 (Nat.le_refl _)
    simp only [Int.ofNat_zero, Int.natCast_zero] at this
    rw [show Ref.words_gather.l0 k0 0 l (↑l.length) 0 = some r from this]
    show some (r == 0) = _
    rw [List.drop_zero] at h2
    cases hb : allz l with
    | true => rw [h2.2 ⟨rfl, hb⟩]; rfl
    | false =>
      have : ¬ (r = 0) := fun e => by have := (h2.1 e).2; rw [hb] at this; cases this
      simp [this]
  exact (Ref.words_Zero.calls k0 A c l (allz l) w h hc hz).mono (fun e w' hh => ⟨hh.1, hh.2.below⟩)
/-! ### What the functions give: bytes and a code -/
def sharedO (k u : List Int) : List Int × Int := if k.length = 32 ∧ u.length = 32 then (if allz (smul k u) = true then ([], 11) else (smul k u, 0)) else ([], 1)
def nine : List Int := [9, 0, 0, 0, 0, 0, 0, 0, 0, 0, 0, 0, 0, 0, 0, 0, 0, 0, 0, 0, 0, 0, 0, 0, 0, 0, 0, 0, 0, 0, 0, 0]
def Gives (w : World) (p : List Int × Int) (e : Ending) (w' : World) : Prop := ∃ A' c', e = .returned (.tuple #[.slice A' p.1.length c', .int .i64 p.2]) ∧ RC w' A' p.1.length p.1 ∧ p.1.length ≤ c' ∧ Below w.heap.size w w'
theorem RC.none (w : World) : RC w none 0 [] := ⟨Kd.C_of_reads (d := (0 : Int)) ⟨rfl, by simp, fun h => by simp at h⟩⟩
theorem Gives.bad {w w' : World} (h : Below w.heap.size w w') (n : Int) : Gives w ([], n) (.returned (.tuple #[.slice none 0 0, .int .i64 n])) w' := ⟨none, 0, rfl, RC.none _, Nat.le_refl _, h⟩
theorem scalar_out (k u : List Int) {A B : Option Addr} {c d : Nat} (w : World) (hC : RC w A k.length k) (hc : k.length ≤ c) (hb : Bytes k) (hD : RC w B u.length u) (hub : Bytes u) :
    Calls Try.prog 42 #[.slice A k.length c, .slice B u.length d] w (Gives w (scalO k u)) := by
  unfold scalO
  by_cases h : k.length = 32 ∧ u.length = 32
  · rw [if_pos h]
    have hC' := hC.r; have hD' := hD.r
    rw [h.1] at hC' hc ⊢
    rw [h.2] at hD' ⊢
    refine (scalar_any k u A B c d w hC' hc hb h.1 hD' hub h.2).mono ?_
    rintro e w' ⟨A', c', rfl, h1, h2, h3⟩
    exact ⟨A', c', by rw [smul_length], by rw [smul_length]; exact h1, by rw [smul_length]; exact h2, h3⟩
  · rw [if_neg h]
    refine (scalar_bad k u A B c d w hC.r hc hb h).mono ?_
    rintro e w' ⟨rfl, h3⟩
    exact Gives.bad h3 1
theorem rscalar_out (k u : List Int) {A B : Option Addr} {c d : Nat} (w : World) (hC : RC w A k.length k) (hc : k.length ≤ c) (hb : Bytes k) (hD : RC w B u.length u) (hd : u.length ≤ d) (hub : Bytes u) :
    Calls Try.prog 43 #[.slice A k.length c, .slice B u.length d] w (Gives w (scalO k u)) := by
  unfold scalO
  by_cases h : k.length = 32 ∧ u.length = 32
  · rw [if_pos h]
    have hC' := hC.r; have hD' := hD.r
    rw [h.1] at hC' hc ⊢
    rw [h.2] at hD' hd ⊢
    refine (rscalar_any k u A B c d w hC' hc hb h.1 hD' hd hub h.2).mono ?_
    rintro e w' ⟨A', c', rfl, h1, h2, h3⟩
    exact ⟨A', c', by rw [smul_length], by rw [smul_length]; exact h1, by rw [smul_length]; exact h2, h3⟩
  · rw [if_neg h]
    refine (rscalar_bad k u A B c d w h).mono ?_
    rintro e w' ⟨rfl, h3⟩
    exact Gives.bad h3 1

set_option maxHeartbeats 1000000 in
theorem shared_out (k u : List Int) {A B : Option Addr} {c d : Nat} (w : World) (hC : RC w A k.length k) (hc : k.length ≤ c) (hb : Bytes k) (hD : RC w B u.length u) (hub : Bytes u) :
    Calls Try.prog 44 #[.slice A k.length c, .slice B u.length d] w (Gives w (sharedO k u)) := by
  have KS := Lib.hid (scalar_out k u (A := A) (B := B) (c := c) (d := d) w hC hc hb hD hub)
  unfold scalO at KS
  unfold sharedO
  by_cases h : k.length = 32 ∧ u.length = 32
  · rw [if_pos h] at KS ⊢
    have hy := smul_bytes k u
    have hl := smul_length k u
    obtain ⟨r, hr⟩ : ∃ r, smul k u = r := ⟨_, rfl⟩
    rw [hr] at KS hy hl ⊢
    obtain ⟨p, hp⟩ : ∃ p : List Int × Int, (if allz r = true then (([] : List Int), (11 : Int)) else (r, 0)) = p := ⟨_, rfl⟩
    rw [hp]
    have HP := Lib.hid hp
    clear hp
    have HY := Lib.hid hy
    have HLn := Lib.hid hl
    clear hC hc hb hD hub h hr hy hl
    go_enter Try.func44, Try.ntmps44
    go_wp2_with fail
    refine (KS.out).mono ?_
    rintro e w1 ⟨A1, c1, rfl, hr1, hc1, hb1⟩
    have HR := Lib.hid hr1
    have HC1 := Lib.hid hc1
    have HB := Lib.hid hb1
    clear hr1 hc1 hb1 KS
    go_wp2_with fail
    refine (zero_any r HY.out (by have := HLn.out; omega) _ HR.out.r HC1.out).mono ?_
    rintro e w2 ⟨rfl, hb1⟩
    have HR2 := Lib.hid (HR.out.below hb1)
    have HB2 := Lib.hid (HB.out.trans (hb1.mono HB.out.size))
    clear hb1 HR HB
    cases hz : allz r with
    | true =>
      go_wp2
      go_ret2
      have e := HP.out
      rw [hz, if_pos rfl] at e
      rw [← e]
      exact Gives.bad HB2.out 11
    | false =>
      go_wp2
      go_ret2
      have e := HP.out
      rw [hz, if_neg (by simp)] at e
      rw [← e]
      exact ⟨_, _, rfl, HR2.out, HC1.out, HB2.out⟩
  · rw [if_neg h] at KS ⊢
    clear hC hc hb hD hub h
    go_enter Try.func44, Try.ntmps44
    go_wp2_with fail
    refine (KS.out).mono ?_
    rintro e w1 ⟨A1, c1, rfl, hr1, hc1, hb1⟩
    have HR := Lib.hid hr1
    have HC1 := Lib.hid hc1
    have HB := Lib.hid hb1
    clear hr1 hc1 hb1 KS
    go_wp2
    go_ret2
    exact ⟨_, _, rfl, HR.out, HC1.out, HB.out⟩
set_option maxHeartbeats 1000000 in
theorem rshared_out (k u : List Int) {A B : Option Addr} {c d : Nat} (w : World) (hC : RC w A k.length k) (hc : k.length ≤ c) (hb : Bytes k) (hD : RC w B u.length u) (hd : u.length ≤ d) (hub : Bytes u) :
    Calls Try.prog 45 #[.slice A k.length c, .slice B u.length d] w (Gives w (sharedO k u)) := by
  have KS := Lib.hid (rscalar_out k u (A := A) (B := B) (c := c) (d := d) w hC hc hb hD hd hub)
  unfold scalO at KS
  unfold sharedO
  by_cases h : k.length = 32 ∧ u.length = 32
  · rw [if_pos h] at KS ⊢
    have hy := smul_bytes k u
    have hl := smul_length k u
    obtain ⟨r, hr⟩ : ∃ r, smul k u = r := ⟨_, rfl⟩
    rw [hr] at KS hy hl ⊢
    obtain ⟨p, hp⟩ : ∃ p : List Int × Int, (if allz r = true then (([] : List Int), (11 : Int)) else (r, 0)) = p := ⟨_, rfl⟩
    rw [hp]
    have HP := Lib.hid hp
    clear hp
    have HY := Lib.hid hy
    have HLn := Lib.hid hl
    clear hC hc hb hD hub h hr hy hl
    go_enter Try.func45, Try.ntmps45
    go_wp2_with fail
    refine (KS.out).mono ?_
    rintro e w1 ⟨A1, c1, rfl, hr1, hc1, hb1⟩
    obtain ⟨ad, e1, hall⟩ := (Kd.reads_of_C (d := (0 : Int)) hr1.r).2.2 (by have := HLn.out; show 0 < r.length; omega)
    subst e1
    have HA := Lib.hid hall
    clear hall
    have HR := Lib.hid hr1
    have HC1 := Lib.hid hc1
    have HB := Lib.hid hb1
    clear hr1 hc1 hb1 KS
    go_wp2_with fail
    go_loopw [8] (fun s8 wr => ∃ i : Nat, i ≤ 32 ∧ s8 = .int .i64 i ∧ (∀ j, j < i → r.getD j 0 = 0) ∧ wr = w1) (fun s8 _ => 32 - (intOf s8).toNat)
    case atStart => exact ⟨0, by omega, rfl, fun j hj => by omega, rfl⟩
    case round =>
      obtain ⟨i, hi, rfl, hz, rfl⟩ := hrel
      have hrl : r.length = 32 := HLn.out
      have hrl2 : (r.length : Int) = 32 := by omega
      by_cases hlt : i < 32
      · have hcell : wr.cell? (ad.add i) = some (.int .u8 (r.getD i 0)) := HA.out i (show i < r.length by omega)
        have hby := HY.out.get i
        obtain ⟨v, hv⟩ : ∃ v, r.getD i 0 = v := ⟨_, rfl⟩
        rw [hv] at hcell hby
        by_cases h0 : v = 0
        · subst h0
          go_wp2_with fail
          go_roundw
          case rel => exact ⟨i + 1, by omega, by go_num, fun j hj => by
            by_cases h : j < i
            · exact hz j h
            · have : j = i := by omega
              rw [this]; exact hv, trivial⟩
          case measure => simp [intOf] <;> omega
        · go_wp2
          go_ret2
          have hn : allz r = false := by
            cases hb : allz r with
            | false => rfl
            | true =>
              have := List.all_eq_true.1 hb (r.getD i 0) (by rw [List.getD_eq_getElem?_getD, List.getElem?_eq_getElem (by omega)]; exact List.getElem_mem _)
              rw [hv] at this
              simp at this
              exact absurd this h0
          have e := HP.out
          rw [hn, if_neg (by simp)] at e
          rw [← e]
          exact ⟨_, _, rfl, HR.out, HC1.out, HB.out⟩
      · have hn : allz r = true := List.all_eq_true.2 (fun y hy => by
          obtain ⟨j, hj, rfl⟩ := List.mem_iff_getElem.1 hy
          have := hz j (by omega)
          rw [List.getD_eq_getElem?_getD, List.getElem?_eq_getElem hj] at this
          simpa using this)
        obtain rfl : i = 32 := by omega
        go_wp2
        go_ret2
        have e := HP.out
        rw [hn, if_pos rfl] at e
        rw [← e]
        exact Gives.bad HB.out 11
  · rw [if_neg h] at KS ⊢
    clear hC hc hb hD hub h
    go_enter Try.func45, Try.ntmps45
    go_wp2_with fail
    refine (KS.out).mono ?_
    rintro e w1 ⟨A1, c1, rfl, hr1, hc1, hb1⟩
    have HB := Lib.hid hb1
    clear hr1 hc1 hb1 KS
    go_wp2
    go_ret2
    exact Gives.bad HB.out 1
end Go.Proofs.Ytfklojheogidpaa
