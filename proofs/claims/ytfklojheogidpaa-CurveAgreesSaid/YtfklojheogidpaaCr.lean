import Derived.Test.YtfklojheogidpaaCa
set_option linter.unusedVariables false
set_option linter.unusedSimpArgs false
namespace Go.Proofs.Ytfklojheogidpaa
open Go.RowKit Go.Proofs.YtfklojheogidpaaW.PrintWords Go.Proofs.YtfklojheogidpaaW.PrintLast Go.Proofs.YtfklojheogidpaaW.PrintMore

theorem rEncodeC (v : Int) {A : Option Addr} {c : Nat} (w : World) (hA : Sl w A c v) : Calls Try.prog 40 #[.slice A 32 c] w fun e w' => ∃ A' c', e = .returned (.slice A' 32 c') ∧ RC w' A' 32 (D v) ∧ 32 ≤ c' ∧ Below w.heap.size w w' := by
  obtain ⟨k, hk⟩ := Encode_ok v
  have := Ref.redanref05_Encode.calls k A c (D v) (D v) w (by rw [D_length]; exact hA.1) (by rw [D_length]; exact hA.2) (hk k (Nat.le_refl _))
  rw [D_length] at this
  refine this.mono ?_
  rintro e w' ⟨v0, rfl, ho, hb⟩
  obtain ⟨A', c', e'⟩ := Kd.R_slice ho
  subst e'
  have h2 := (Kd.R_reads' ho).2
  rw [D_length] at h2 ⊢
  exact ⟨A', c', rfl, ⟨h2.2⟩, h2.1, hb⟩

theorem step_vals (p : St) (u : Int) {sum dif a b e st c ast f x en ae z g h s hh t : Int} (h1 : p.x + p.z = sum) (h2 : p.x - p.z = dif) (h3 : sum * sum = a) (h4 : dif * dif = b) (h5 : a - b = e) (h6 : p.s - p.t = st) (h7 : sum * st = c) (h8 : p.s + p.t = ast) (h9 : dif * ast = f)
    (h10 : a * b = x) (h11 : 121665 * e = en) (h12 : a + en = ae) (h13 : e * ae = z) (h14 : c + f = g) (h15 : c - f = h) (h16 : g * g = s) (h17 : h * h = hh) (h18 : u * hh = t) : p.step u = ⟨x % PP, z % PP, s % PP, t % PP⟩ := by
  subst h1 h2 h3 h4 h5 h6 h7 h8 h9 h10 h11 h12 h13 h14 h15 h16 h17 h18
  simp only [St.step]
  rw [Int.mul_comm 121665]

/-! ### The reference: Clamp -/
theorem clampR_ok (k : List Int) (hb : Bytes k) (h : k.length = 32) : Ref.redanref06_Clamp.f k = some (clampL k) := by
  have h0 := hb.get 0
  have h31 := hb.get 31
  unfold Ref.redanref06_Clamp.f clampL
  simp only [List.length_nil, List.nil_append, h]
  simp [h, rd]
  have a0 : (0 : Int) ≤ k[0]'(by omega) ∧ k[0]'(by omega) < 256 := by rw [List.getD_eq_getElem?_getD, List.getElem?_eq_getElem (by omega)] at h0; exact h0
  have a1 : (0 : Int) ≤ k[31]'(by omega) ∧ k[31]'(by omega) < 256 := by rw [List.getD_eq_getElem?_getD, List.getElem?_eq_getElem (by omega)] at h31; exact h31
  generalize k[0]'(by omega) = p at a0 ⊢
  generalize k[31]'(by omega) = q at a1 ⊢
  rw [show p.tdiv 8 % 256 * 8 % 256 = p / 8 * 8 by rw [Int.tdiv_eq_ediv_of_nonneg a0.1]; omega, show (q.tmod 64 + 64) % 256 = q % 64 + 64 by rw [Int.tmod_eq_emod_of_nonneg a1.1]; omega]
theorem rClamp (k : List Int) (A : Option Addr) (c : Nat) (w : World) (hC : Kd.C (Kd.int .u8) w A 32 k) (hc : 32 ≤ c) (hb : Bytes k) (h : k.length = 32) :
    Calls Try.prog 49 #[.slice A 32 c] w fun e w' => ∃ g cap, e = .returned (.slice (some ⟨g, 0, none⟩) 32 cap) ∧ RC w' (some ⟨g, 0, none⟩) 32 (clampL k) ∧ Below w.heap.size w w' := by
  have := Ref.redanref06_Clamp.calls A c k (clampL k) w (by rw [h]; exact hC) (by omega) (clampR_ok k hb h)
  rw [h] at this
  refine this.mono ?_
  rintro e w' ⟨v, rfl, hR, hB⟩
  have hl := (clampL_length k).trans h
  obtain ⟨gb, cap, ev, hge, hgl, _⟩ := Kd.R_form hR (by omega)
  subst ev
  refine ⟨gb, cap, by rw [hl], ⟨?_⟩, hB⟩
  have h2 := (Kd.R_reads' hR).2.2
  rwa [hl] at h2
/-! ### Digits that are held -/
structure RS (W0 : World) (A : Option Addr) (n : List Int) (fs : List (Option Addr × Nat × Int)) (w : World) : Prop where
  below : Below W0.heap.size W0 w
  row : RC w A 32 n
  facts : ∀ y ∈ fs, Sl w y.1 y.2.1 y.2.2
section
variable {W0 w w' : World} {A : Option Addr} {n : List Int} {fs gs : List (Option Addr × Nat × Int)}
theorem RS.call (h : RS W0 A n fs w) (hb : Below w.heap.size w w') : RS W0 A n fs w' := ⟨h.below.trans (hb.mono h.below.size), h.row.below hb, fun y hy => (h.facts y hy).below hb⟩
theorem RS.add (h : RS W0 A n fs w) {B : Option Addr} {c : Nat} {u : Int} (hs : Sl w B c u) : RS W0 A n ((B, c, u) :: fs) w := ⟨h.below, h.row, fun y hy => by
  rcases List.mem_cons.1 hy with rfl | hy
  · exact hs
  · exact h.facts y hy⟩
theorem RS.get (h : RS W0 A n fs w) (B : Option Addr) (c : Nat) (u : Int) (hm : (B, c, u) ∈ fs) : Sl w B c u := h.facts (B, c, u) hm
theorem RS.only (h : RS W0 A n fs w) (hs : ∀ y ∈ gs, Sl w y.1 y.2.1 y.2.2) : RS W0 A n gs w := ⟨h.below, h.row, hs⟩
end

set_option maxHeartbeats 1000000 in
theorem rscalar_bad (k u : List Int) (A B : Option Addr) (c d : Nat) (w : World) (h : ¬ (k.length = 32 ∧ u.length = 32)) :
    Calls Try.prog 43 #[.slice A k.length c, .slice B u.length d] w fun e w' => e = .returned (.tuple #[.slice none 0 0, .int .i64 1]) ∧ Below w.heap.size w w' := by
  by_cases hk : k.length = 32
  · have hu : u.length ≠ 32 := fun e => h ⟨hk, e⟩
    rw [hk]
    have hd : decide ((u.length : Int) = 32) = false := decide_eq_false (by omega)
    have hd2 : ¬ ((u.length : Int) = 32) := by omega
    clear h hk
    go_enter Try.func43, Try.ntmps43
    go_wp2
    go_ret2
    exact ⟨rfl, Below.refl _ _⟩
  · have hd : decide ((k.length : Int) = 32) = false := decide_eq_false (by omega)
    have hd2 : ¬ ((k.length : Int) = 32) := by omega
    clear h hk
    go_enter Try.func43, Try.ntmps43
    go_wp2
    go_ret2
    exact ⟨rfl, Below.refl _ _⟩
set_option maxHeartbeats 8000000 in
set_option maxRecDepth 100000 in
theorem rscalar_any (k u : List Int) (A B : Option Addr) (c d : Nat) (w : World) (hC : Kd.C (Kd.int .u8) w A 32 k) (hc : 32 ≤ c) (hb : Bytes k) (hk : k.length = 32) (hD : Kd.C (Kd.int .u8) w B 32 u) (hd : 32 ≤ d) (hub : Bytes u) (hu : u.length = 32) :
    Calls Try.prog 43 #[.slice A 32 c, .slice B 32 d] w fun e w' => ∃ A' c', e = .returned (.tuple #[.slice A' 32 c', .int .i64 0]) ∧ RC w' A' 32 (smul k u) ∧ 32 ≤ c' ∧ Below w.heap.size w w' := by
  have KC := Lib.hid (rClamp k A c w hC hc hb hk)
  have HD : Hid (RC w B 32 u) := ⟨hD⟩
  have HUB := Lib.hid hub
  have HU := Lib.hid hu
  have HCD := Lib.hid hd
  have HNL : Hid ((clampL k).length = 32) := (clampL_length k).trans hk
  have HNB : Hid (Bytes (clampL k)) := clampL_bytes k hb
  obtain ⟨n, hn⟩ : ∃ y, clampL k = y := ⟨_, rfl⟩
  obtain ⟨uv, huv⟩ : ∃ y, decV u = y := ⟨_, rfl⟩
  have er : smul k u = D ((lad n uv 255).x * (lad n uv 255).z ^ E0) := by rw [← hn, ← huv]; rfl
  rw [er]
  rw [hn] at KC HNL HNB
  clear hC hD hub hu hb hk hc hd er hn
  go_enter Try.func43, Try.ntmps43
  go_wp2_with fail
  refine (KC.out).mono ?_
  rintro e w1 ⟨gc, cap, rfl, hr, hB⟩
  have H0 : Hid (RS w (some ⟨gc, 0, none⟩) n [] w1) := ⟨hB, hr, fun y hy => by cases hy⟩
  have HD1 := Lib.hid (HD.out.below hB)
  clear hr hB KC HD
  go_wp2_with fail
  refine (rDecode32 u HU.out HUB.out _ HD1.out.r HCD.out).mono ?_
  rintro e w2 ⟨Aw, cw, rfl, hs, b⟩
  rw [huv] at hs
  have H1 := Lib.hid ((H0.out.call b).add hs)
  clear hs b H0 HD1 HU HUB HCD huv
  go_wp2_with fail
  refine (rSmall 1 (by omega) (by omega) _).mono ?_
  rintro e wq2 ⟨B2, q2, rfl, hs, b⟩
  have H2 := Lib.hid ((H1.out.call b).add hs)
  clear hs b H1
  go_wp2_with fail
  refine (rSmall 0 (by omega) (by omega) _).mono ?_
  rintro e wq3 ⟨B3, q3, rfl, hs, b⟩
  have H3 := Lib.hid ((H2.out.call b).add hs)
  clear hs b H2
  go_wp2_with fail
  refine (rSmall 1 (by omega) (by omega) _).mono ?_
  rintro e wq4 ⟨B4, q4, rfl, hs, b⟩
  have H4 := Lib.hid ((H3.out.call b).add hs)
  clear hs b H3
  have HH := Lib.hid H4.out
  clear H4
  go_wp2_with fail
  go_loopw [8, 9, 10, 11, 12] (fun s8 s9 s10 s11 s12 wr => ∃ (k : Nat) (j : Int) (a8 a9 a10 a11 : Option Addr) (c8 c9 c10 c11 : Nat), k ≤ 255 ∧ j = 254 - (k : Int) ∧ s12 = .int .i64 j ∧ s8 = .slice a8 32 c8 ∧ s9 = .slice a9 32 c9 ∧ s10 = .slice a10 32 c10 ∧ s11 = .slice a11 32 c11 ∧ RS w (some ⟨gc, 0, none⟩) n [(a8, c8, (lad n uv k).x), (a9, c9, (lad n uv k).z), (a10, c10, (lad n uv k).s), (a11, c11, (lad n uv k).t), (Aw, cw, uv)] wr) (fun _ _ _ _ s12 _ => (intOf s12 + 1).toNat)
  case atStart => exact ⟨0, 254, B2, B3, Aw, B4, q2, q3, cw, q4, by omega, by omega, rfl, rfl, rfl, rfl, rfl, HH.out.only (fun y hy => by
      simp only [List.mem_cons, List.not_mem_nil, or_false] at hy
      rcases hy with rfl | rfl | rfl | rfl | rfl
      · exact HH.out.get B2 q2 1 (by simp)
      · exact HH.out.get B3 q3 0 (by simp)
      · exact HH.out.get Aw cw uv (by simp)
      · exact HH.out.get B4 q4 1 (by simp)
      · exact HH.out.get Aw cw uv (by simp))⟩
  case round =>
    clear HH
    obtain ⟨k, j, a8, a9, a10, a11, c8, c9, c10, c11, hk, hj, rfl, rfl, rfl, rfl, rfl, hl⟩ := hrel
    by_cases hlt : k < 255
    · obtain ⟨m, rfl⟩ : ∃ m : Nat, j = m := ⟨254 - k, by omega⟩
      have hm4 : m ≤ 254 := by omega
      have hm5 : (m : Int) ≤ 254 := by omega
      have HM : Hid (m = 254 - k) := show _ = _ by omega
      have hc := hl.row.cell (m / 8) (by omega)
      obtain ⟨y, hy⟩ : ∃ y, n.getD (m / 8) 0 = y := ⟨_, rfl⟩
      have hy2 := HNB.out.get (m / 8)
      rw [hy] at hc hy2
      obtain ⟨yn, rfl⟩ := Int.eq_ofNat_of_zero_le hy2.1
      have hyn : yn < 256 := by omega
      have HY := Lib.hid hy
      have HH := Lib.hid hl
      clear hl hy2 hy hj
      go_upto_region 13 with fail
      clear hc
      go_wp2_with fail
      go_loopw [13, 14] (fun s13 s14 wi => ∃ t : Nat, t ≤ m % 8 ∧ s14 = .int .i64 t ∧ s13 = .int .i64 ((yn / 2 ^ t : Nat) : Int) ∧ RS w (some ⟨gc, 0, none⟩) n [(a8, c8, (lad n uv k).x), (a9, c9, (lad n uv k).z), (a10, c10, (lad n uv k).s), (a11, c11, (lad n uv k).t), (Aw, cw, uv)] wi) (fun _ s14 _ => m % 8 - (intOf s14).toNat)
      case atStart => exact ⟨0, by omega, rfl, by simp, HH.out⟩
      case round =>
        clear HH
        obtain ⟨t, ht, rfl, rfl, hl⟩ := hrel
        have HH := Lib.hid hl
        clear hl
        by_cases hlt2 : t < m % 8
        · have hd1 : ((t : Nat) : Int) < (m : Int) % 8 := by omega
          obtain ⟨q, hq⟩ : ∃ q, yn / 2 ^ t = q := ⟨_, rfl⟩
          have hq2 : q < 256 := by have := Nat.div_le_self yn (2 ^ t); omega
          have hq3 : ((q : Nat) : Int) < 256 := by omega
          rw [hq]
          go_wp2_with fail
          go_roundw
          case rel => exact ⟨t + 1, by omega, by go_num, by rw [Nat.pow_succ, ← Nat.div_div_eq_div_mul, hq]; go_num, HH.out⟩
          case measure => simp [intOf] <;> omega
        · obtain rfl : t = m % 8 := by omega
          have hd1 : ¬ ((m : Int) % 8 < (m : Int) % 8) := by omega
          have hbt : bitAt n m = decide (yn / 2 ^ (m % 8) % 2 = 1) := by
            unfold bitAt
            rw [HY.out]
            have : ((yn : Int) / 2 ^ (m % 8) % 2) = ((yn / 2 ^ (m % 8) % 2 : Nat) : Int) := by simp
            rw [this]
            by_cases h1 : yn / 2 ^ (m % 8) % 2 = 1
            · rw [h1]; rfl
            · rw [decide_eq_false h1]; simp; omega
          obtain ⟨v, hv⟩ : ∃ v, yn / 2 ^ (m % 8) = v := ⟨_, rfl⟩
          rw [hv] at hbt ⊢
          clear hv
          have hstep : lad n uv (k + 1) = (((lad n uv k).turn (bitAt n m)).step uv).turn (bitAt n m) := by rw [HM.out]; rfl
          by_cases hb1 : v % 2 = 1
          · rw [hbt, decide_eq_true hb1] at hstep
            have hb2 : (v : Int) % 2 = 1 := by omega
            have HS := Lib.hid hstep
            clear hstep hbt hb1
            obtain ⟨P, hP⟩ : ∃ P, lad n uv k = P := ⟨_, rfl⟩
            rw [hP] at HH HS
            go_wp2_with fail
            refine (rAdd _ _ _ (HH.out.get a10 c10 (P.s) (by simp)) (HH.out.get a11 c11 (P.t) (by simp))).mono ?_
            rintro e wsum ⟨Asum, csum, rfl, hs, b⟩
            obtain ⟨ysum, h_sum⟩ : ∃ v, P.s + P.t = v := ⟨_, rfl⟩
            rw [h_sum] at hs
            have H_sum := Lib.hid ((HH.out.call b).add hs)
            clear hs b HH
            go_wp2_with fail
            refine (rSub _ _ _ (H_sum.out.get a10 c10 (P.s) (by simp)) (H_sum.out.get a11 c11 (P.t) (by simp))).mono ?_
            rintro e wdif ⟨Adif, cdif, rfl, hs, b⟩
            obtain ⟨ydif, h_dif⟩ : ∃ v, P.s - P.t = v := ⟨_, rfl⟩
            rw [h_dif] at hs
            have H_dif := Lib.hid ((H_sum.out.call b).add hs)
            clear hs b H_sum
            go_wp2_with fail
            refine (rMul _ _ _ (H_dif.out.get Asum csum (ysum) (by simp)) (H_dif.out.get Asum csum (ysum) (by simp))).mono ?_
            rintro e wa ⟨Aa, ca, rfl, hs, b⟩
            obtain ⟨ya, h_a⟩ : ∃ v, ysum * ysum = v := ⟨_, rfl⟩
            rw [h_a] at hs
            have H_a := Lib.hid ((H_dif.out.call b).add hs)
            clear hs b H_dif
            go_wp2_with fail
            refine (rMul _ _ _ (H_a.out.get Adif cdif (ydif) (by simp)) (H_a.out.get Adif cdif (ydif) (by simp))).mono ?_
            rintro e wb ⟨Ab, cb, rfl, hs, b⟩
            obtain ⟨yb, h_b⟩ : ∃ v, ydif * ydif = v := ⟨_, rfl⟩
            rw [h_b] at hs
            have H_b := Lib.hid ((H_a.out.call b).add hs)
            clear hs b H_a
            go_wp2_with fail
            refine (rSub _ _ _ (H_b.out.get Aa ca (ya) (by simp)) (H_b.out.get Ab cb (yb) (by simp))).mono ?_
            rintro e we ⟨Ae, ce, rfl, hs, b⟩
            obtain ⟨ye, h_e⟩ : ∃ v, ya - yb = v := ⟨_, rfl⟩
            rw [h_e] at hs
            have H_e := Lib.hid ((H_b.out.call b).add hs)
            clear hs b H_b
            go_wp2_with fail
            refine (rSub _ _ _ (H_e.out.get a8 c8 (P.x) (by simp)) (H_e.out.get a9 c9 (P.z) (by simp))).mono ?_
            rintro e wst ⟨Ast, cst, rfl, hs, b⟩
            obtain ⟨yst, h_st⟩ : ∃ v, P.x - P.z = v := ⟨_, rfl⟩
            rw [h_st] at hs
            have H_st := Lib.hid ((H_e.out.call b).add hs)
            clear hs b H_e
            go_wp2_with fail
            refine (rMul _ _ _ (H_st.out.get Asum csum (ysum) (by simp)) (H_st.out.get Ast cst (yst) (by simp))).mono ?_
            rintro e wc ⟨Ac, cc, rfl, hs, b⟩
            obtain ⟨yc, h_c⟩ : ∃ v, ysum * yst = v := ⟨_, rfl⟩
            rw [h_c] at hs
            have H_c := Lib.hid ((H_st.out.call b).add hs)
            clear hs b H_st
            go_wp2_with fail
            refine (rAdd _ _ _ (H_c.out.get a8 c8 (P.x) (by simp)) (H_c.out.get a9 c9 (P.z) (by simp))).mono ?_
            rintro e wast ⟨Aast, cast, rfl, hs, b⟩
            obtain ⟨yast, h_ast⟩ : ∃ v, P.x + P.z = v := ⟨_, rfl⟩
            rw [h_ast] at hs
            have H_ast := Lib.hid ((H_c.out.call b).add hs)
            clear hs b H_c
            go_wp2_with fail
            refine (rMul _ _ _ (H_ast.out.get Adif cdif (ydif) (by simp)) (H_ast.out.get Aast cast (yast) (by simp))).mono ?_
            rintro e wf ⟨Af, cf, rfl, hs, b⟩
            obtain ⟨yf, h_f⟩ : ∃ v, ydif * yast = v := ⟨_, rfl⟩
            rw [h_f] at hs
            have H_f := Lib.hid ((H_ast.out.call b).add hs)
            clear hs b H_ast
            go_wp2_with fail
            refine (rMul _ _ _ (H_f.out.get Aa ca (ya) (by simp)) (H_f.out.get Ab cb (yb) (by simp))).mono ?_
            rintro e wx ⟨Ax, cx, rfl, hs, b⟩
            obtain ⟨yx, h_x⟩ : ∃ v, ya * yb = v := ⟨_, rfl⟩
            rw [h_x] at hs
            have H_x := Lib.hid ((H_f.out.call b).add hs)
            clear hs b H_f
            go_wp2_with fail
            refine (rSmall 121665 (by omega) (by omega) _).mono ?_
            rintro e wn ⟨An, cn, rfl, hs, b⟩
            have H_n := Lib.hid ((H_x.out.call b).add hs)
            clear hs b H_x
            go_wp2_with fail
            refine (rMul _ _ _ (H_n.out.get An cn (121665) (by simp)) (H_n.out.get Ae ce (ye) (by simp))).mono ?_
            rintro e wen ⟨Aen, cen, rfl, hs, b⟩
            obtain ⟨yen, h_en⟩ : ∃ v, 121665 * ye = v := ⟨_, rfl⟩
            rw [h_en] at hs
            have H_en := Lib.hid ((H_n.out.call b).add hs)
            clear hs b H_n
            go_wp2_with fail
            refine (rAdd _ _ _ (H_en.out.get Aa ca (ya) (by simp)) (H_en.out.get Aen cen (yen) (by simp))).mono ?_
            rintro e wae ⟨Aae, cae, rfl, hs, b⟩
            obtain ⟨yae, h_ae⟩ : ∃ v, ya + yen = v := ⟨_, rfl⟩
            rw [h_ae] at hs
            have H_ae := Lib.hid ((H_en.out.call b).add hs)
            clear hs b H_en
            go_wp2_with fail
            refine (rMul _ _ _ (H_ae.out.get Ae ce (ye) (by simp)) (H_ae.out.get Aae cae (yae) (by simp))).mono ?_
            rintro e wz ⟨Az, cz, rfl, hs, b⟩
            obtain ⟨yz, h_z⟩ : ∃ v, ye * yae = v := ⟨_, rfl⟩
            rw [h_z] at hs
            have H_z := Lib.hid ((H_ae.out.call b).add hs)
            clear hs b H_ae
            go_wp2_with fail
            refine (rAdd _ _ _ (H_z.out.get Ac cc (yc) (by simp)) (H_z.out.get Af cf (yf) (by simp))).mono ?_
            rintro e wg ⟨Ag, cg, rfl, hs, b⟩
            obtain ⟨yg, h_g⟩ : ∃ v, yc + yf = v := ⟨_, rfl⟩
            rw [h_g] at hs
            have H_g := Lib.hid ((H_z.out.call b).add hs)
            clear hs b H_z
            go_wp2_with fail
            refine (rSub _ _ _ (H_g.out.get Ac cc (yc) (by simp)) (H_g.out.get Af cf (yf) (by simp))).mono ?_
            rintro e wh ⟨Ah, ch, rfl, hs, b⟩
            obtain ⟨yh, h_h⟩ : ∃ v, yc - yf = v := ⟨_, rfl⟩
            rw [h_h] at hs
            have H_h := Lib.hid ((H_g.out.call b).add hs)
            clear hs b H_g
            go_wp2_with fail
            refine (rMul _ _ _ (H_h.out.get Ag cg (yg) (by simp)) (H_h.out.get Ag cg (yg) (by simp))).mono ?_
            rintro e ws ⟨As, cs, rfl, hs, b⟩
            obtain ⟨ys, h_s⟩ : ∃ v, yg * yg = v := ⟨_, rfl⟩
            rw [h_s] at hs
            have H_s := Lib.hid ((H_h.out.call b).add hs)
            clear hs b H_h
            go_wp2_with fail
            refine (rMul _ _ _ (H_s.out.get Ah ch (yh) (by simp)) (H_s.out.get Ah ch (yh) (by simp))).mono ?_
            rintro e whh ⟨Ahh, chh, rfl, hs, b⟩
            obtain ⟨yhh, h_hh⟩ : ∃ v, yh * yh = v := ⟨_, rfl⟩
            rw [h_hh] at hs
            have H_hh := Lib.hid ((H_s.out.call b).add hs)
            clear hs b H_s
            go_wp2_with fail
            refine (rMul _ _ _ (H_hh.out.get Aw cw (uv) (by simp)) (H_hh.out.get Ahh chh (yhh) (by simp))).mono ?_
            rintro e wt ⟨At, ct, rfl, hs, b⟩
            obtain ⟨yt, h_t⟩ : ∃ v, uv * yhh = v := ⟨_, rfl⟩
            rw [h_t] at hs
            have H_t := Lib.hid ((H_hh.out.call b).add hs)
            clear hs b H_hh
            have hst := step_vals (P.turn true) uv (sum := ysum) (dif := ydif) (a := ya) (b := yb) (e := ye) (st := yst) (c := yc) (ast := yast) (f := yf) (x := yx) (en := yen) (ae := yae) (z := yz) (g := yg) (h := yh) (s := ys) (hh := yhh) (t := yt) h_sum h_dif h_a h_b h_e h_st h_c h_ast h_f h_x h_en h_ae h_z h_g h_h h_s h_hh h_t
            have hst2 := HS.out
            rw [hst] at hst2
            have HQ := Lib.hid hst2
            clear hst hst2 HS h_sum h_dif h_a h_b h_e h_st h_c h_ast h_f h_x h_en h_ae h_z h_g h_h h_s h_hh h_t
            have hS0 := H_t.out
            have HZ : Hid (RS w (some ⟨gc, 0, none⟩) n [(Ax, cx, yx % PP), (Az, cz, yz % PP), (As, cs, ys % PP), (At, ct, yt % PP), (Aw, cw, uv)] wt) := hS0.only (fun y hy => by
              simp only [List.mem_cons, List.not_mem_nil, or_false] at hy
              rcases hy with rfl | rfl | rfl | rfl | rfl
              · exact (hS0.get Ax cx yx (by simp)).mod
              · exact (hS0.get Az cz yz (by simp)).mod
              · exact (hS0.get As cs ys (by simp)).mod
              · exact (hS0.get At ct yt (by simp)).mod
              · exact hS0.get Aw cw uv (by simp))
            clear hS0 H_t
            go_wp2_with fail
            go_roundw
            case rel => exact ⟨k + 1, (m : Int) - 1, As, At, Ax, Az, cs, ct, cx, cz, by omega, by have := HM.out; omega, by go_num, rfl, rfl, rfl, rfl, HZ.out.only (fun y hy => by
              rw [HQ.out] at hy
              simp only [St.turn, List.mem_cons, List.not_mem_nil, or_false, if_true, if_false, Bool.false_eq_true] at hy
              rcases hy with rfl | rfl | rfl | rfl | rfl
              · exact HZ.out.get As cs _ (by simp)
              · exact HZ.out.get At ct _ (by simp)
              · exact HZ.out.get Ax cx _ (by simp)
              · exact HZ.out.get Az cz _ (by simp)
              · exact HZ.out.get Aw cw _ (by simp))⟩
            case measure => simp [intOf] <;> omega
          · rw [hbt, decide_eq_false hb1] at hstep
            have hb2 : ¬ ((v : Int) % 2 = 1) := by omega
            have HS := Lib.hid hstep
            clear hstep hbt hb1
            obtain ⟨P, hP⟩ : ∃ P, lad n uv k = P := ⟨_, rfl⟩
            rw [hP] at HH HS
            go_wp2_with fail
            refine (rAdd _ _ _ (HH.out.get a8 c8 (P.x) (by simp)) (HH.out.get a9 c9 (P.z) (by simp))).mono ?_
            rintro e wsum ⟨Asum, csum, rfl, hs, b⟩
            obtain ⟨ysum, h_sum⟩ : ∃ v, P.x + P.z = v := ⟨_, rfl⟩
            rw [h_sum] at hs
            have H_sum := Lib.hid ((HH.out.call b).add hs)
            clear hs b HH
            go_wp2_with fail
            refine (rSub _ _ _ (H_sum.out.get a8 c8 (P.x) (by simp)) (H_sum.out.get a9 c9 (P.z) (by simp))).mono ?_
            rintro e wdif ⟨Adif, cdif, rfl, hs, b⟩
            obtain ⟨ydif, h_dif⟩ : ∃ v, P.x - P.z = v := ⟨_, rfl⟩
            rw [h_dif] at hs
            have H_dif := Lib.hid ((H_sum.out.call b).add hs)
            clear hs b H_sum
            go_wp2_with fail
            refine (rMul _ _ _ (H_dif.out.get Asum csum (ysum) (by simp)) (H_dif.out.get Asum csum (ysum) (by simp))).mono ?_
            rintro e wa ⟨Aa, ca, rfl, hs, b⟩
            obtain ⟨ya, h_a⟩ : ∃ v, ysum * ysum = v := ⟨_, rfl⟩
            rw [h_a] at hs
            have H_a := Lib.hid ((H_dif.out.call b).add hs)
            clear hs b H_dif
            go_wp2_with fail
            refine (rMul _ _ _ (H_a.out.get Adif cdif (ydif) (by simp)) (H_a.out.get Adif cdif (ydif) (by simp))).mono ?_
            rintro e wb ⟨Ab, cb, rfl, hs, b⟩
            obtain ⟨yb, h_b⟩ : ∃ v, ydif * ydif = v := ⟨_, rfl⟩
            rw [h_b] at hs
            have H_b := Lib.hid ((H_a.out.call b).add hs)
            clear hs b H_a
            go_wp2_with fail
            refine (rSub _ _ _ (H_b.out.get Aa ca (ya) (by simp)) (H_b.out.get Ab cb (yb) (by simp))).mono ?_
            rintro e we ⟨Ae, ce, rfl, hs, b⟩
            obtain ⟨ye, h_e⟩ : ∃ v, ya - yb = v := ⟨_, rfl⟩
            rw [h_e] at hs
            have H_e := Lib.hid ((H_b.out.call b).add hs)
            clear hs b H_b
            go_wp2_with fail
            refine (rSub _ _ _ (H_e.out.get a10 c10 (P.s) (by simp)) (H_e.out.get a11 c11 (P.t) (by simp))).mono ?_
            rintro e wst ⟨Ast, cst, rfl, hs, b⟩
            obtain ⟨yst, h_st⟩ : ∃ v, P.s - P.t = v := ⟨_, rfl⟩
            rw [h_st] at hs
            have H_st := Lib.hid ((H_e.out.call b).add hs)
            clear hs b H_e
            go_wp2_with fail
            refine (rMul _ _ _ (H_st.out.get Asum csum (ysum) (by simp)) (H_st.out.get Ast cst (yst) (by simp))).mono ?_
            rintro e wc ⟨Ac, cc, rfl, hs, b⟩
            obtain ⟨yc, h_c⟩ : ∃ v, ysum * yst = v := ⟨_, rfl⟩
            rw [h_c] at hs
            have H_c := Lib.hid ((H_st.out.call b).add hs)
            clear hs b H_st
            go_wp2_with fail
            refine (rAdd _ _ _ (H_c.out.get a10 c10 (P.s) (by simp)) (H_c.out.get a11 c11 (P.t) (by simp))).mono ?_
            rintro e wast ⟨Aast, cast, rfl, hs, b⟩
            obtain ⟨yast, h_ast⟩ : ∃ v, P.s + P.t = v := ⟨_, rfl⟩
            rw [h_ast] at hs
            have H_ast := Lib.hid ((H_c.out.call b).add hs)
            clear hs b H_c
            go_wp2_with fail
            refine (rMul _ _ _ (H_ast.out.get Adif cdif (ydif) (by simp)) (H_ast.out.get Aast cast (yast) (by simp))).mono ?_
            rintro e wf ⟨Af, cf, rfl, hs, b⟩
            obtain ⟨yf, h_f⟩ : ∃ v, ydif * yast = v := ⟨_, rfl⟩
            rw [h_f] at hs
            have H_f := Lib.hid ((H_ast.out.call b).add hs)
            clear hs b H_ast
            go_wp2_with fail
            refine (rMul _ _ _ (H_f.out.get Aa ca (ya) (by simp)) (H_f.out.get Ab cb (yb) (by simp))).mono ?_
            rintro e wx ⟨Ax, cx, rfl, hs, b⟩
            obtain ⟨yx, h_x⟩ : ∃ v, ya * yb = v := ⟨_, rfl⟩
            rw [h_x] at hs
            have H_x := Lib.hid ((H_f.out.call b).add hs)
            clear hs b H_f
            go_wp2_with fail
            refine (rSmall 121665 (by omega) (by omega) _).mono ?_
            rintro e wn ⟨An, cn, rfl, hs, b⟩
            have H_n := Lib.hid ((H_x.out.call b).add hs)
            clear hs b H_x
            go_wp2_with fail
            refine (rMul _ _ _ (H_n.out.get An cn (121665) (by simp)) (H_n.out.get Ae ce (ye) (by simp))).mono ?_
            rintro e wen ⟨Aen, cen, rfl, hs, b⟩
            obtain ⟨yen, h_en⟩ : ∃ v, 121665 * ye = v := ⟨_, rfl⟩
            rw [h_en] at hs
            have H_en := Lib.hid ((H_n.out.call b).add hs)
            clear hs b H_n
            go_wp2_with fail
            refine (rAdd _ _ _ (H_en.out.get Aa ca (ya) (by simp)) (H_en.out.get Aen cen (yen) (by simp))).mono ?_
            rintro e wae ⟨Aae, cae, rfl, hs, b⟩
            obtain ⟨yae, h_ae⟩ : ∃ v, ya + yen = v := ⟨_, rfl⟩
            rw [h_ae] at hs
            have H_ae := Lib.hid ((H_en.out.call b).add hs)
            clear hs b H_en
            go_wp2_with fail
            refine (rMul _ _ _ (H_ae.out.get Ae ce (ye) (by simp)) (H_ae.out.get Aae cae (yae) (by simp))).mono ?_
            rintro e wz ⟨Az, cz, rfl, hs, b⟩
            obtain ⟨yz, h_z⟩ : ∃ v, ye * yae = v := ⟨_, rfl⟩
            rw [h_z] at hs
            have H_z := Lib.hid ((H_ae.out.call b).add hs)
            clear hs b H_ae
            go_wp2_with fail
            refine (rAdd _ _ _ (H_z.out.get Ac cc (yc) (by simp)) (H_z.out.get Af cf (yf) (by simp))).mono ?_
            rintro e wg ⟨Ag, cg, rfl, hs, b⟩
            obtain ⟨yg, h_g⟩ : ∃ v, yc + yf = v := ⟨_, rfl⟩
            rw [h_g] at hs
            have H_g := Lib.hid ((H_z.out.call b).add hs)
            clear hs b H_z
            go_wp2_with fail
            refine (rSub _ _ _ (H_g.out.get Ac cc (yc) (by simp)) (H_g.out.get Af cf (yf) (by simp))).mono ?_
            rintro e wh ⟨Ah, ch, rfl, hs, b⟩
            obtain ⟨yh, h_h⟩ : ∃ v, yc - yf = v := ⟨_, rfl⟩
            rw [h_h] at hs
            have H_h := Lib.hid ((H_g.out.call b).add hs)
            clear hs b H_g
            go_wp2_with fail
            refine (rMul _ _ _ (H_h.out.get Ag cg (yg) (by simp)) (H_h.out.get Ag cg (yg) (by simp))).mono ?_
            rintro e ws ⟨As, cs, rfl, hs, b⟩
            obtain ⟨ys, h_s⟩ : ∃ v, yg * yg = v := ⟨_, rfl⟩
            rw [h_s] at hs
            have H_s := Lib.hid ((H_h.out.call b).add hs)
            clear hs b H_h
            go_wp2_with fail
            refine (rMul _ _ _ (H_s.out.get Ah ch (yh) (by simp)) (H_s.out.get Ah ch (yh) (by simp))).mono ?_
            rintro e whh ⟨Ahh, chh, rfl, hs, b⟩
            obtain ⟨yhh, h_hh⟩ : ∃ v, yh * yh = v := ⟨_, rfl⟩
            rw [h_hh] at hs
            have H_hh := Lib.hid ((H_s.out.call b).add hs)
            clear hs b H_s
            go_wp2_with fail
            refine (rMul _ _ _ (H_hh.out.get Aw cw (uv) (by simp)) (H_hh.out.get Ahh chh (yhh) (by simp))).mono ?_
            rintro e wt ⟨At, ct, rfl, hs, b⟩
            obtain ⟨yt, h_t⟩ : ∃ v, uv * yhh = v := ⟨_, rfl⟩
            rw [h_t] at hs
            have H_t := Lib.hid ((H_hh.out.call b).add hs)
            clear hs b H_hh
            have hst := step_vals (P.turn false) uv (sum := ysum) (dif := ydif) (a := ya) (b := yb) (e := ye) (st := yst) (c := yc) (ast := yast) (f := yf) (x := yx) (en := yen) (ae := yae) (z := yz) (g := yg) (h := yh) (s := ys) (hh := yhh) (t := yt) h_sum h_dif h_a h_b h_e h_st h_c h_ast h_f h_x h_en h_ae h_z h_g h_h h_s h_hh h_t
            have hst2 := HS.out
            rw [hst] at hst2
            have HQ := Lib.hid hst2
            clear hst hst2 HS h_sum h_dif h_a h_b h_e h_st h_c h_ast h_f h_x h_en h_ae h_z h_g h_h h_s h_hh h_t
            have hS0 := H_t.out
            have HZ : Hid (RS w (some ⟨gc, 0, none⟩) n [(Ax, cx, yx % PP), (Az, cz, yz % PP), (As, cs, ys % PP), (At, ct, yt % PP), (Aw, cw, uv)] wt) := hS0.only (fun y hy => by
              simp only [List.mem_cons, List.not_mem_nil, or_false] at hy
              rcases hy with rfl | rfl | rfl | rfl | rfl
              · exact (hS0.get Ax cx yx (by simp)).mod
              · exact (hS0.get Az cz yz (by simp)).mod
              · exact (hS0.get As cs ys (by simp)).mod
              · exact (hS0.get At ct yt (by simp)).mod
              · exact hS0.get Aw cw uv (by simp))
            clear hS0 H_t
            go_wp2_with fail
            go_roundw
            case rel => exact ⟨k + 1, (m : Int) - 1, Ax, Az, As, At, cx, cz, cs, ct, by omega, by have := HM.out; omega, by go_num, rfl, rfl, rfl, rfl, HZ.out.only (fun y hy => by
              rw [HQ.out] at hy
              simp only [St.turn, List.mem_cons, List.not_mem_nil, or_false, if_true, if_false, Bool.false_eq_true] at hy
              rcases hy with rfl | rfl | rfl | rfl | rfl
              · exact HZ.out.get Ax cx _ (by simp)
              · exact HZ.out.get Az cz _ (by simp)
              · exact HZ.out.get As cs _ (by simp)
              · exact HZ.out.get At ct _ (by simp)
              · exact HZ.out.get Aw cw _ (by simp))⟩
            case measure => simp [intOf] <;> omega
    · obtain rfl : k = 255 := by omega
      obtain rfl : j = -1 := by omega
      have HH := Lib.hid hl
      clear hl
      go_wp2_with fail
      refine (rPower _ _ (HH.out.get a9 c9 (lad n uv 255).z (by simp))).mono ?_
      rintro e wa ⟨Ba, qa, rfl, hs, b⟩
      have Ha := Lib.hid ((HH.out.call b).add hs)
      clear hs b HH
      go_wp2_with fail
      refine (rMul _ _ _ (Ha.out.get a8 c8 (lad n uv 255).x (by simp)) (Ha.out.get Ba qa ((lad n uv 255).z ^ E0) (by simp))).mono ?_
      rintro e wb ⟨Bb, qb, rfl, hs, b⟩
      have Hb := Lib.hid (Ha.out.call b)
      have Hs := Lib.hid hs
      clear hs b Ha
      go_wp2_with fail
      refine (rEncodeC _ _ Hs.out).mono ?_
      rintro e wc ⟨Bc, qc, rfl, hs, hq, b⟩
      have Hq := Lib.hid hq
      have Hc := Lib.hid (Hb.out.call b)
      have Hr := Lib.hid hs
      clear hs b Hb Hs
      go_wp2_with fail
      go_ret2
      exact ⟨Bc, qc, rfl, Hr.out, Hq.out, Hc.out.below⟩
end Go.Proofs.Ytfklojheogidpaa
