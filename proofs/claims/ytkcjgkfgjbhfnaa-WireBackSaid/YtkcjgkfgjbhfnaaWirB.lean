import Derived.Test.YtkcjgkfgjbhfnaaWirK
set_option linter.unusedVariables false
set_option linter.unusedSimpArgs false
namespace Go.Proofs.Ytkcjgkfgjbhfnaa
open Go.RowKit Go.Proofs.YtkcjgkfgjbhfnaaW.PrintWords Go.Proofs.YtkcjgkfgjbhfnaaW.PrintLast Go.Proofs.YtkcjgkfgjbhfnaaW.PrintMore

theorem may_size {P : Pk} (h : mayB P = true) : P.mac.length ≤ 16 ∧ P.body.length ≤ 1187 := by
  have := of_decide_eq_true h
  unfold MayP at this
  omega
theorem put_no (P : Pk) (h : P.ok) (hk : mayB P = false) : Wr.wire_Put.f 30 P.k P.f P.t P.m P.p P.n P.mac P.c P.body = some ([], 1) := by
  unfold Wr.wire_Put.f
  rw [wire_may_ok P h, Option.bind_some, if_neg (by rw [hk]; simp)]
section
variable (P : Pk) (h : P.ok) {A B : Option Addr} {c d : Nat} (w : World) (hA : Rd w A c P.mac) (hB : Rd w B d P.body)
include h hA hB
theorem bput_no (hk : mayB P = false) : Calls Try.prog 20 #[.agg (pkc P A c B d)] w fun e w' => ∃ D f, e = .returned (.tuple #[.slice D 0 f, .int .i64 1]) ∧ Rd w' D f [] ∧ Below w.heap.size w w' := by
  refine (Wr.wire_Put.calls 30 P.k P.f P.t P.m P.p P.n _ A c P.mac P.c _ B d P.body _ _ w hA.v hB.v (put_no P h hk)).mono ?_
  rintro e w' ⟨v, rfl, ho, hbl⟩
  obtain ⟨D, f, rfl, hr⟩ := Own.rd (Kd.R_mono ho (fun _ _ => trivial)) (fun x hx => by cases hx)
  exact ⟨D, f, rfl, hr, hbl⟩
theorem bput_yes (hk : mayB P = true) : Calls Try.prog 20 #[.agg (pkc P A c B d)] w fun e w' => ∃ D f, e = .returned (.tuple #[.slice D (putL P).length f, .int .i64 0]) ∧ Rd w' D f (putL P) ∧ Below w.heap.size w w' := by
  have hs := may_size hk
  have := put_any P h (by omega) (by omega) w hA hB
  rw [hk, if_pos rfl, if_pos rfl] at this
  refine this.mono ?_
  rintro e w' ⟨v, rfl, ho, hbl⟩
  obtain ⟨D, f, rfl, hr⟩ := ho.rd (putL_bytes P h hA.b hB.b)
  exact ⟨D, f, rfl, hr, hbl⟩
end
theorem le_st4 (x : Int) (h : 0 ≤ x ∧ x ≤ 4294967295) : le (st 4 x) = x := by
  simp only [st, le]
  omega
theorem le_st8 (x : Int) (h : 0 ≤ x ∧ x ≤ 18446744073709551615) : le (st 8 x) = x := by
  simp only [st, le]
  omega
theorem back_of (P : Pk) (h : P.ok) (hk : mayB P = true) : good (putL P) = true ∧ parse (putL P) = P ∧ (putL P).length ≤ 1200 := by
  have hm := of_decide_eq_true hk
  have e4f := le_st4 P.f h.f
  have e4t := le_st4 P.t h.t
  have e8 := le_st8 P.c h.c
  simp only [st] at e4f e4t e8
  have key : parse (putL P) = P ∧ (putL P).length ≤ 1200 ∧ (putL P).length ≠ 0 ∧ Form (putL P) := by
    cases P with
    | mk k f t m p n mac c body =>
    unfold MayP at hm
    dsimp only at hm e4f e4t e8
    rcases hm with hm | hm | hm | hm
    · obtain ⟨h1, h2, h3, h4, h5, h6, h7, h8, h9, h10, h11, h12⟩ := hm
      subst h1 h9
      have hb28 : ((([1] ++ st 4 f ++ st 4 t ++ [m % 256, p % 256, n % 256] ++ mac ++ body).take 28).drop 12) = mac := by
        simp only [st, List.cons_append, List.nil_append, List.append_assoc, List.take_succ_cons, List.drop_succ_cons, List.drop_zero]
        rw [List.take_append_of_le_length (by omega), List.take_of_length_le (by omega)]
      have hd28 : ([1] ++ st 4 f ++ st 4 t ++ [m % 256, p % 256, n % 256] ++ mac ++ body).drop 28 = body := by
        simp only [st, List.cons_append, List.nil_append, List.append_assoc, List.drop_succ_cons]
        rw [List.drop_append_of_le_length (by omega), List.drop_of_length_le (by omega), List.nil_append]
      have hp : putL ⟨1, f, t, m, p, n, mac, 0, body⟩ = [1] ++ st 4 f ++ st 4 t ++ [m % 256, p % 256, n % 256] ++ mac ++ body := by
        unfold putL
        rw [if_pos rfl]
      rw [hp]
      refine ⟨?_, ?_, ?_, ?_⟩
      · unfold parse
        rw [if_pos (by rfl), hb28, hd28]
        simp only [st, List.cons_append, List.nil_append, List.append_assoc, List.take_succ_cons, List.drop_succ_cons, List.drop_zero, List.take_zero, List.getD_cons_zero, List.getD_cons_succ, e4f, e4t]
        rw [Int.emod_eq_of_lt (by omega) (by omega), Int.emod_eq_of_lt (by omega) (by omega), Int.emod_eq_of_lt (by omega) (by omega)]
      · simp [st_length]; omega
      · simp [st_length]
      · exact .inl ⟨rfl, by simp [st_length]; omega⟩
    · obtain ⟨h1, h2, h3, h4, h5, h6, h7, h8⟩ := hm
      have h9 : body = [] := List.eq_nil_of_length_eq_zero h8
      subst h1 h2 h3 h4 h5 h7 h9
      have hp : putL ⟨2, 0, t, 0, 0, 0, mac, 0, []⟩ = [2] ++ st 4 t ++ mac := by
        unfold putL
        rw [if_neg (by dsimp only; omega), if_pos rfl]
      rw [hp]
      refine ⟨?_, ?_, ?_, ?_⟩
      · unfold parse
        rw [if_neg (by simp), if_pos (by rfl)]
        simp only [st, List.cons_append, List.nil_append, List.append_assoc, List.take_succ_cons, List.drop_succ_cons, List.drop_zero, List.take_zero, e4t]
      · simp [st_length]; omega
      · simp [st_length]
      · exact .inr (.inl ⟨rfl, by simp [st_length]; omega⟩)
    · obtain ⟨h1, h2, h3, h4, h5, h6, h7, h8⟩ := hm
      have h9 : mac = [] := List.eq_nil_of_length_eq_zero h6
      subst h1 h2 h3 h4 h5 h9
      have hp : putL ⟨3, 0, t, 0, 0, 0, [], c, body⟩ = [3] ++ st 4 t ++ st 8 c ++ body := by
        unfold putL
        rw [if_neg (by dsimp only; omega), if_neg (by dsimp only; omega)]
        rfl
      rw [hp]
      refine ⟨?_, ?_, ?_, ?_⟩
      · unfold parse
        rw [if_neg (by simp), if_neg (by simp)]
        simp only [st, List.cons_append, List.nil_append, List.append_assoc, List.take_succ_cons, List.drop_succ_cons, List.drop_zero, List.take_zero, List.getD_cons_zero, e4t, e8]
      · simp [st_length]; omega
      · simp [st_length]
      · exact .inr (.inr ⟨.inl rfl, by simp [st_length]; omega⟩)
    · obtain ⟨h1, h2, h3, h4, h5, h6, h7⟩ := hm
      have h9 : mac = [] := List.eq_nil_of_length_eq_zero h6
      subst h1 h2 h3 h4 h5 h9
      have hp : putL ⟨4, 0, t, 0, 0, 0, [], c, body⟩ = [4] ++ st 4 t ++ st 8 c ++ body := by
        unfold putL
        rw [if_neg (by dsimp only; omega), if_neg (by dsimp only; omega)]
        rfl
      rw [hp]
      refine ⟨?_, ?_, ?_, ?_⟩
      · unfold parse
        rw [if_neg (by simp), if_neg (by simp)]
        simp only [st, List.cons_append, List.nil_append, List.append_assoc, List.take_succ_cons, List.drop_succ_cons, List.drop_zero, List.take_zero, List.getD_cons_zero, e4t, e8]
      · simp [st_length]; omega
      · simp [st_length]
      · exact .inr (.inr ⟨.inr rfl, by simp [st_length]; omega⟩)
  obtain ⟨k1, k2, k3, k4⟩ := key
  refine ⟨?_, k1, k2⟩
  unfold good
  rw [k1, hk, Bool.and_true]
  exact decide_eq_true ⟨k2, k3, k4⟩
theorem st4_le (a b c d : Int) (ha : Byte a) (hb : Byte b) (hc : Byte c) (hd : Byte d) : st 4 (le [a, b, c, d]) = [a, b, c, d] := by
  unfold Byte at ha hb hc hd
  simp only [st, le, List.cons.injEq, and_true]
  omega
theorem st8_le (a b c d e f g h : Int) (ha : Byte a) (hb : Byte b) (hc : Byte c) (hd : Byte d) (he : Byte e) (hf : Byte f) (hg : Byte g) (hh : Byte h) : st 8 (le [a, b, c, d, e, f, g, h]) = [a, b, c, d, e, f, g, h] := by
  unfold Byte at ha hb hc hd he hf hg hh
  simp only [st, le, List.cons.injEq, and_true]
  omega
theorem parse_ok (l : List Int) (hb : Bytes l) (hl : 5 ≤ l.length) : (parse l).ok := by
  have h4 : ∀ m : List Int, Bytes m → m.length ≤ 4 → 0 ≤ le m ∧ le m ≤ 4294967295 := fun m hm hl => by
    have := le_range m hm
    have e : (256 : Int) ^ m.length ≤ 256 ^ 4 := by
      have : ∀ n : Nat, n ≤ 4 → (256 : Int) ^ n ≤ 256 ^ 4 := by
        intro n hn
        rcases n with _ | _ | _ | _ | _ | n
        · decide
        · decide
        · decide
        · decide
        · decide
        · omega
      exact this _ hl
    omega
  have h8 : ∀ m : List Int, Bytes m → m.length ≤ 8 → 0 ≤ le m ∧ le m ≤ 18446744073709551615 := fun m hm hl => by
    have := le_range m hm
    have e : (256 : Int) ^ m.length ≤ 256 ^ 8 := by
      have : ∀ n : Nat, n ≤ 8 → (256 : Int) ^ n ≤ 256 ^ 8 := by
        intro n hn
        rcases n with _ | _ | _ | _ | _ | _ | _ | _ | _ | n
        · decide
        · decide
        · decide
        · decide
        · decide
        · decide
        · decide
        · decide
        · decide
        · omega
      exact this _ hl
    omega
  have hg : ∀ i, I64 (l.getD i 0) := fun i => by
    unfold I64
    by_cases hi : i < l.length
    · have := hb (l.getD i 0) (by rw [List.getD_eq_getElem?_getD, List.getElem?_eq_getElem hi]; exact List.getElem_mem hi)
      unfold Byte at this
      omega
    · rw [List.getD_eq_getElem?_getD, List.getElem?_eq_none (by omega)]
      simp
  have z : I64 0 := by unfold I64; omega
  have o1 : I64 1 := by unfold I64; omega
  have o2 : I64 2 := by unfold I64; omega
  have t5 := h4 ((l.take 5).drop 1) (fun x hx => hb x (List.mem_of_mem_take (List.mem_of_mem_drop hx))) (by simp; omega)
  have t9 := h4 ((l.take 9).drop 5) (fun x hx => hb x (List.mem_of_mem_take (List.mem_of_mem_drop hx))) (by simp; omega)
  have t13 := h8 ((l.take 13).drop 5) (fun x hx => hb x (List.mem_of_mem_take (List.mem_of_mem_drop hx))) (by simp; omega)
  unfold parse
  split
  · exact ⟨o1, t5, t9, hg _, hg _, hg _, by dsimp only; omega⟩
  · split
    · exact ⟨o2, by dsimp only; omega, t5, z, z, z, by dsimp only; omega⟩
    · exact ⟨hg _, by dsimp only; omega, t5, z, z, z, t13⟩
theorem put_back (l : List Int) (hb : Bytes l) (hg : good l = true) : putL (parse l) = l := by
  unfold good at hg
  rw [Bool.and_eq_true] at hg
  obtain ⟨hd, hm⟩ := hg
  obtain ⟨h1, h2, hF⟩ := of_decide_eq_true hd
  have hm := of_decide_eq_true hm
  rcases hF with ⟨hk, hl⟩ | ⟨hk, hl⟩ | ⟨hk, hl⟩
  · obtain ⟨x0, x1, x2, x3, x4, x5, x6, x7, x8, x9, x10, x11, r, rfl⟩ : ∃ x0 x1 x2 x3 x4 x5 x6 x7 x8 x9 x10 x11 r, l = x0 :: x1 :: x2 :: x3 :: x4 :: x5 :: x6 :: x7 :: x8 :: x9 :: x10 :: x11 :: r := by
      rcases l with _ | ⟨x0, _ | ⟨x1, _ | ⟨x2, _ | ⟨x3, _ | ⟨x4, _ | ⟨x5, _ | ⟨x6, _ | ⟨x7, _ | ⟨x8, _ | ⟨x9, _ | ⟨x10, _ | ⟨x11, r⟩⟩⟩⟩⟩⟩⟩⟩⟩⟩⟩⟩ <;> first | exact ⟨_, _, _, _, _, _, _, _, _, _, _, _, _, rfl⟩ | (simp at hl)
    have hx : ∀ x ∈ x0 :: x1 :: x2 :: x3 :: x4 :: x5 :: x6 :: x7 :: x8 :: x9 :: x10 :: x11 :: r, 0 ≤ x ∧ x ≤ 255 := hb
    simp only [List.mem_cons, forall_eq_or_imp] at hx
    obtain ⟨b0, b1, b2, b3, b4, b5, b6, b7, b8, b9, b10, b11, br⟩ := hx
    simp only [List.getD_cons_zero] at hk
    subst hk
    unfold parse
    rw [if_pos (by rfl)]
    unfold putL
    rw [if_pos (by rfl)]
    simp only [List.take_succ_cons, List.drop_succ_cons, List.drop_zero, List.take_zero, List.getD_cons_zero, List.getD_cons_succ]
    rw [st4_le _ _ _ _ b1 b2 b3 b4, st4_le _ _ _ _ b5 b6 b7 b8, Int.emod_eq_of_lt (by omega) (by omega), Int.emod_eq_of_lt (by omega) (by omega), Int.emod_eq_of_lt (by omega) (by omega)]
    simp [List.take_append_drop]
  · obtain ⟨x0, x1, x2, x3, x4, r, rfl⟩ : ∃ x0 x1 x2 x3 x4 r, l = x0 :: x1 :: x2 :: x3 :: x4 :: r := by
      rcases l with _ | ⟨x0, _ | ⟨x1, _ | ⟨x2, _ | ⟨x3, _ | ⟨x4, r⟩⟩⟩⟩⟩ <;> first | exact ⟨_, _, _, _, _, _, rfl⟩ | (simp at hl)
    have hx : ∀ x ∈ x0 :: x1 :: x2 :: x3 :: x4 :: r, 0 ≤ x ∧ x ≤ 255 := hb
    simp only [List.mem_cons, forall_eq_or_imp] at hx
    obtain ⟨b0, b1, b2, b3, b4, br⟩ := hx
    simp only [List.getD_cons_zero] at hk
    subst hk
    unfold parse
    rw [if_neg (by simp), if_pos (by rfl)]
    unfold putL
    rw [if_neg (by simp), if_pos (by rfl)]
    simp only [List.take_succ_cons, List.drop_succ_cons, List.drop_zero, List.take_zero, List.getD_cons_zero, List.getD_cons_succ]
    rw [st4_le _ _ _ _ b1 b2 b3 b4]
    rfl
  · obtain ⟨x0, x1, x2, x3, x4, x5, x6, x7, x8, x9, x10, x11, x12, r, rfl⟩ : ∃ x0 x1 x2 x3 x4 x5 x6 x7 x8 x9 x10 x11 x12 r, l = x0 :: x1 :: x2 :: x3 :: x4 :: x5 :: x6 :: x7 :: x8 :: x9 :: x10 :: x11 :: x12 :: r := by
      rcases l with _ | ⟨x0, _ | ⟨x1, _ | ⟨x2, _ | ⟨x3, _ | ⟨x4, _ | ⟨x5, _ | ⟨x6, _ | ⟨x7, _ | ⟨x8, _ | ⟨x9, _ | ⟨x10, _ | ⟨x11, _ | ⟨x12, r⟩⟩⟩⟩⟩⟩⟩⟩⟩⟩⟩⟩⟩ <;> first | exact ⟨_, _, _, _, _, _, _, _, _, _, _, _, _, _, rfl⟩ | (simp at hl)
    have hx : ∀ x ∈ x0 :: x1 :: x2 :: x3 :: x4 :: x5 :: x6 :: x7 :: x8 :: x9 :: x10 :: x11 :: x12 :: r, 0 ≤ x ∧ x ≤ 255 := hb
    simp only [List.mem_cons, forall_eq_or_imp] at hx
    obtain ⟨b0, b1, b2, b3, b4, b5, b6, b7, b8, b9, b10, b11, b12, br⟩ := hx
    simp only [List.getD_cons_zero] at hk
    unfold parse
    rw [if_neg (by simp; omega), if_neg (by simp; omega)]
    unfold putL
    simp only [List.getD_cons_zero]
    rw [if_neg (by omega), if_neg (by omega)]
    simp only [List.take_succ_cons, List.drop_succ_cons, List.drop_zero, List.take_zero, List.getD_cons_zero, List.getD_cons_succ]
    rw [st4_le _ _ _ _ b1 b2 b3 b4, st8_le _ _ _ _ _ _ _ _ b5 b6 b7 b8 b9 b10 b11 b12, Int.emod_eq_of_lt (by omega) (by omega)]
    rfl
theorem good_len {l : List Int} (hg : good l = true) : 13 < l.length ∧ l.length ≤ 1200 ∧ mayB (parse l) = true := by
  unfold good at hg
  rw [Bool.and_eq_true] at hg
  obtain ⟨h1, h2, hF⟩ := of_decide_eq_true hg.1
  unfold Form at hF
  exact ⟨by omega, h1, hg.2⟩
end Go.Proofs.Ytkcjgkfgjbhfnaa
