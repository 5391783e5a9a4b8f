import Derived.Test.YtkcjgkfgjbhfnaaWirR
import Derived.Deep.RegionHeld3
import Derived.Deep.DrawnRows
import Derived.Outline
set_option linter.unusedVariables false
set_option linter.unusedSimpArgs false
namespace Go.Proofs.Ytkcjgkfgjbhfnaa
open Go.RowKit Go.Proofs.YtkcjgkfgjbhfnaaW.PrintWords Go.Proofs.YtkcjgkfgjbhfnaaW.PrintLast Go.Proofs.YtkcjgkfgjbhfnaaW.PrintMore
attribute [local go_sem ↓] Go.wp_at_zero Go.wp_at_succ

/-! ### The closure number -/
set_option maxHeartbeats 1000000 in
theorem number_1 (ad : Addr) (c : Nat) (l : List Int) (b : Nat) (w : World) (h : Rd w (some ad) c l) (hb : w.heap[b]? = some (.cells #[.slice (some ad) l.length c] 37 (0, 0))) (hl : 5 ≤ l.length) (T : Int) (hT : le ((l.take 5).drop 1) = T) :
    Calls Try.prog 37 #[.int .i64 1, .pointer (some ⟨b, 0, none⟩)] w fun e w' => e = .returned (.int .u32 T) ∧ Below w.heap.size w w' := by
  have cb : w.cell? ⟨b, 0, none⟩ = some (.slice (some ad) l.length c) := (blk_cell hb 0).trans rfl
  have hc := h.c
  have bT := le4 h.b 1 5 rfl
  rw [hT] at bT
  obtain ⟨bT0, bT1⟩ := bT
  have i1 : (5 : Int) ≤ l.length := by omega
  have k1 : ∀ w', Rd w' (some ad) c l → Calls Try.prog 38 #[.slice (some ⟨ad.block, ad.off + 1, none⟩) 4 (c - 1)] w' fun e w2 => e = .returned (.int .u64 T) ∧ Below w'.heap.size w' w2 := fun w' hw => by rw [← hT]; exact cload w' (hw.mid 1 5 (by omega) (by omega) (by omega)) (by simp; omega) (.inl rfl)
  have H := Lib.hid h
  have K1 := Lib.hid k1
  clear h hb k1 hT
  go_enter Try.func37, Try.ntmps37
  go_wp2_with fail
  with_reducible refine (K1.out _ H.out).mono ?_
  rintro e w1 ⟨rfl, hb⟩
  have HB := Lib.hid hb
  clear hb
  go_wp2
  go_ret
  exact ⟨rfl, HB.out⟩
set_option maxHeartbeats 1000000 in
theorem number_5 (ad : Addr) (c : Nat) (l : List Int) (b : Nat) (w : World) (h : Rd w (some ad) c l) (hb : w.heap[b]? = some (.cells #[.slice (some ad) l.length c] 37 (0, 0))) (hl : 9 ≤ l.length) (T : Int) (hT : le ((l.take 9).drop 5) = T) :
    Calls Try.prog 37 #[.int .i64 5, .pointer (some ⟨b, 0, none⟩)] w fun e w' => e = .returned (.int .u32 T) ∧ Below w.heap.size w w' := by
  have cb : w.cell? ⟨b, 0, none⟩ = some (.slice (some ad) l.length c) := (blk_cell hb 0).trans rfl
  have hc := h.c
  have bT := le4 h.b 5 9 rfl
  rw [hT] at bT
  obtain ⟨bT0, bT1⟩ := bT
  have i1 : (9 : Int) ≤ l.length := by omega
  have k1 : ∀ w', Rd w' (some ad) c l → Calls Try.prog 38 #[.slice (some ⟨ad.block, ad.off + 5, none⟩) 4 (c - 5)] w' fun e w2 => e = .returned (.int .u64 T) ∧ Below w'.heap.size w' w2 := fun w' hw => by rw [← hT]; exact cload w' (hw.mid 5 9 (by omega) (by omega) (by omega)) (by simp; omega) (.inl rfl)
  have H := Lib.hid h
  have K1 := Lib.hid k1
  clear h hb k1 hT
  go_enter Try.func37, Try.ntmps37
  go_wp2_with fail
  with_reducible refine (K1.out _ H.out).mono ?_
  rintro e w1 ⟨rfl, hb⟩
  have HB := Lib.hid hb
  clear hb
  go_wp2
  go_ret
  exact ⟨rfl, HB.out⟩

/-! ### Get -/
/-- A row of bytes made from base on. -/
def OwnA (w : World) (base : Nat) (v : Value) (l : List Int) : Prop := Kd.R (Kd.int .u8) 5 w base (fun k => base ≤ k) v l
theorem OwnA.of {w : World} {base : Nat} {v : Value} {l : List Int} (h : Kd.R (Kd.int .u8) 5 w base (fun _ => True) v l) : OwnA w base v l := Kd.R_mono (Kd.R_bound h) (fun k hk => hk.2.1)
theorem OwnA.mk {w : World} {base b : Nat} {v : Value} {l : List Int} (h : Kd.R (Kd.int .u8) 5 w b (fun _ => True) v l) (hb : base ≤ b) : OwnA w base v l := OwnA.of (Kd.R_lower h hb)
theorem OwnA.set {w : World} {base : Nat} {v : Value} {l : List Int} (h : OwnA w base v l) {p : Addr} (hp : p.block < base) (u : Value) : OwnA (w.setCell p u) base v l := Kd.R_far h (fun k hk => by omega) u
theorem OwnA.below {w w' : World} {base : Nat} {v : Value} {l : List Int} (h : OwnA w base v l) (hb : Below w.heap.size w w') : OwnA w' base v l := Kd.R_below h hb
theorem OwnA.drew {w : World} {base : Nat} {v : Value} {l : List Int} (h : OwnA w base v l) : OwnA w.drew base v l := h.below (Below.refl _ _).drew
theorem OwnA.own {w : World} {base b : Nat} {v : Value} {l : List Int} (h : OwnA w base v l) (hb : b ≤ base) : Own w b v l := Kd.R_mono (Kd.R_lower h hb) (fun _ _ => trivial)
/-- The memory of Get: the argument's box, the result, the packet. -/
structure GW (w0 : World) (ad : Addr) (n c : Nat) (P : Array Value) (w : World) : Prop where
  below : Below w0.heap.size w0 w
  box : w.heap[w0.heap.size]? = some (.cells #[.slice (some ad) n c] 37 (0, 0))
  res : w.heap[w0.heap.size + 1]? = some (.cells z46 45 (0, 0))
  pk : w.heap[w0.heap.size + 1 + 1 + 1]? = some (.cells P 45 (0, 0))
theorem GW.call {w0 w w' : World} {ad : Addr} {n c : Nat} {P : Array Value} (h : GW w0 ad n c P w) (hb : Below w.heap.size w w') : GW w0 ad n c P w' :=
  ⟨h.below.trans (hb.mono h.below.size), (hb.block _ (blk_lt h.box)).trans h.box, (hb.block _ (blk_lt h.res)).trans h.res, (hb.block _ (blk_lt h.pk)).trans h.pk⟩
theorem GW.set {w0 w : World} {ad : Addr} {n c : Nat} {P : Array Value} (h : GW w0 ad n c P w) (i : Nat) (u : Value) : GW w0 ad n c (P.setIfInBounds i u) (w.setCell ⟨w0.heap.size + 1 + 1 + 1, i, none⟩ u) :=
  ⟨h.below.setCell (by dsimp only; omega) _, blk_far h.box (by dsimp only; omega) _, blk_far h.res (by dsimp only; omega) _, blk_set h.pk i u⟩
theorem GW.drewN {w0 w : World} {ad : Addr} {n c : Nat} {P : Array Value} (h : GW w0 ad n c P w) (k : Nat) : GW w0 ad n c P (w.drewN k) := h.call (pw_below_drewN (Below.refl _ _) k)
theorem GW.drew {w0 w : World} {ad : Addr} {n c : Nat} {P : Array Value} (h : GW w0 ad n c P w) : GW w0 ad n c P w.drew := h.call (Below.refl _ _).drew
theorem GW.size {w0 w : World} {ad : Addr} {n c : Nat} {P : Array Value} (h : GW w0 ad n c P w) : w0.heap.size + 1 + 1 + 1 < w.heap.size := blk_lt h.pk
theorem keep0 {w : World} {p q : Addr} {v u : Value} (hne : p.block ≠ q.block) (h : w.cell? p = some v) : (w.setCell q u).cell? p = some v := by
  have hh : (w.setCell q u).heap[p.block]? = w.heap[p.block]? := Below.heap_setCell _ _ _ _ hne
  unfold World.cell? at *
  simpa [hh] using h
theorem keep1 {w : World} {p q : Addr} {v u : Value} (hne : p.block ≠ q.block) (h : w.cell? p = some v) : (w.setCell q u).drew.cell? p = some v := by
  have hh : (w.setCell q u).heap[p.block]? = w.heap[p.block]? := Below.heap_setCell _ _ _ _ hne
  unfold World.cell? at *
  simpa [World.drew, hh] using h
theorem clone_at {w0 w : World} {ad : Addr} {c n k : Nat} {l m : List Int} {P : Array Value} (h : Rd w0 (some ad) c l) {A : Option Addr} (hr : ∀ w', Rd w' (some ad) c l → Rd w' A k m) (hn : m.length = n) (hl : l.length ≤ 100000) (hm : m.length ≤ l.length) (g : GW w0 ad l.length c P w) :
    Calls Try.prog 39 #[.slice A n k] w fun e w2 => ∃ A' k', e = .returned (.slice A' n k') ∧ OwnA w2 (w0.heap.size + 1 + 1 + 1 + 1) (.slice A' n k') m ∧ Below w.heap.size w w2 := by
  have hb := h.below g.below
  have := clone_any A k m w (hr w hb).r (hr w hb).c (by omega)
  rw [hn] at this
  refine this.mono (fun e w' ⟨v, h1, h2, h3⟩ => ?_)
  obtain ⟨A', k', e'⟩ := Kd.R_slice h2
  subst e'
  rw [hn] at h1 h2
  exact ⟨A', k', h1, OwnA.mk h2 (by have := g.size; omega), h3⟩
theorem GW.cb {w0 w : World} {ad : Addr} {n c : Nat} {P : Array Value} (h : GW w0 ad n c P w) : w.cell? ⟨w0.heap.size, 0, none⟩ = some (.slice (some ad) n c) := (blk_cell h.box 0).trans rfl
theorem GW.old {w0 w : World} {ad : Addr} {n c : Nat} {P : Array Value} (h : GW w0 ad n c P w) {p : Addr} {v : Value} (hp : p.block < w0.heap.size) (hv : w0.cell? p = some v) : w.cell? p = some v := (h.below.cell hp).trans hv
theorem GW.cp {w0 w : World} {ad : Addr} {n c : Nat} {P : Array Value} (h : GW w0 ad n c P w) (i : Nat) {v : Value} (hv : P[i]? = some v) : w.cell? ⟨w0.heap.size + 1 + 1 + 1, i, none⟩ = some v := (blk_cell h.pk i).trans hv
def pcs (k f t m p n : Int) (a : Value) (c : Int) (b : Value) : Array Value := #[.int .i64 k, .int .u32 f, .int .u32 t, .int .i64 m, .int .i64 p, .int .i64 n, a, .int .u64 c, b]
theorem GW.start (w : World) (ad : Addr) (n c : Nat) (k : Int) (x : Nat) : GW w ad n c (pcs k 0 0 0 0 0 (.slice none 0 0) 0 (.slice none 0 0)) (((((w.alloc (.cells #[.slice (some ad) n c] 37)).alloc (.cells z46 45)).alloc (.cells #[.int .i64 0, .int .i64 28, .int .i64 21, .int .i64 13, .int .i64 13] 70)).alloc (.cells (pcs k 0 0 0 0 0 (.slice none 0 0) 0 (.slice none 0 0)) 45)).drewN x) := by
  refine GW.drewN ?_ x
  refine ⟨((((Below.refl _ _).alloc (Nat.le_refl _) _).alloc (by simp) _).alloc (by simp; omega) _).alloc (by simp; omega) _, ?_, ?_, ?_⟩
  · rw [Below.heap_alloc _ _ _ (by simp; omega), Below.heap_alloc _ _ _ (by simp; omega), Below.heap_alloc _ _ _ (by simp)]
    exact heap_alloc_new w _
  · rw [Below.heap_alloc _ _ _ (by simp), Below.heap_alloc _ _ _ (by simp)]
    exact heap_alloc2_new w _ _
  · have := heap_alloc_new (((w.alloc (.cells #[.slice (some ad) n c] 37)).alloc (.cells z46 45)).alloc (.cells #[.int .i64 0, .int .i64 28, .int .i64 21, .int .i64 13, .int .i64 13] 70)) (.cells (pcs k 0 0 0 0 0 (.slice none 0 0) 0 (.slice none 0 0)) 45)
    simpa using this

theorem OwnA.rd {w : World} {base n k : Nat} {A : Option Addr} {l : List Int} (h : OwnA w base (.slice A n k) l) (hb : Bytes l) : l.length = n ∧ Rd w A k l := by
  obtain ⟨h1, h2, h3⟩ := Kd.R_reads' h
  exact ⟨h1.symm, ⟨h3, by omega, hb⟩⟩
theorem OwnA.nil (w : World) (base : Nat) : OwnA w base (.slice none 0 0) [] := Kd.R_nil _ _ _ _ _
theorem OwnA.lower {w : World} {base b : Nat} {v : Value} {l : List Int} (h : OwnA w base v l) (hb : b ≤ base) : OwnA w b v l := Kd.R_mono (Kd.R_lower h hb) (fun k hk => by omega)
/-- What wire.Get answers: the packet, and its rows are new. -/
def GetsO (w : World) (l : List Int) (e : Ending) (w' : World) : Prop := ∃ A c B d, e = .returned (.tuple #[.agg #[.int .i64 (getP l).k, .int .u32 (getP l).f, .int .u32 (getP l).t, .int .i64 (getP l).m, .int .i64 (getP l).p, .int .i64 (getP l).n, .slice A (getP l).mac.length c, .int .u64 (getP l).c, .slice B (getP l).body.length d], .int .i64 (errn l)]) ∧ OwnA w' w.heap.size (.slice A (getP l).mac.length c) (getP l).mac ∧ OwnA w' w.heap.size (.slice B (getP l).body.length d) (getP l).body ∧ Below w.heap.size w w'
theorem getsO_bad {w w' : World} {l : List Int} {n : Int} (hg : good l = false) (hn : errn l = n) (hb : Below w.heap.size w w') :
    GetsO w l (.returned (.tuple #[.agg #[.int .i64 0, .int .u32 0, .int .u32 0, .int .i64 0, .int .i64 0, .int .i64 0, .slice none 0 0, .int .u64 0, .slice none 0 0], .int .i64 n])) w' := by
  have e : getP l = zeroPk := by unfold getP; rw [hg]; rfl
  unfold GetsO
  rw [e, hn]
  exact ⟨none, 0, none, 0, rfl, OwnA.nil _ _, OwnA.nil _ _, hb⟩
theorem getsO_good {w w' : World} {l : List Int} {P : Pk} (hg : good l = true) (hn : errn l = 0) (hP : parse l = P) {A B : Option Addr} {c d la lb : Nat} (hla : P.mac.length = la) (hlb : P.body.length = lb) (hA : OwnA w' w.heap.size (.slice A la c) P.mac) (hB : OwnA w' w.heap.size (.slice B lb d) P.body) (hb : Below w.heap.size w w') :
    GetsO w l (.returned (.tuple #[.agg #[.int .i64 P.k, .int .u32 P.f, .int .u32 P.t, .int .i64 P.m, .int .i64 P.p, .int .i64 P.n, .slice A la c, .int .u64 P.c, .slice B lb d], .int .i64 0])) w' := by
  have e : getP l = P := by unfold getP; rw [if_pos hg, hP]
  subst hla hlb
  unfold GetsO
  rw [e, hn]
  exact ⟨A, c, B, d, rfl, hA, hB, hb⟩
theorem may' (P : Pk) (h : P.ok) {A B : Option Addr} {c d la lb base base' : Nat} (w : World) (hm : Bytes P.mac) (hb : Bytes P.body) (hA : OwnA w base (.slice A la c) P.mac) (hB : OwnA w base' (.slice B lb d) P.body) :
    Calls Try.prog 30 #[.agg #[.int .i64 P.k, .int .u32 P.f, .int .u32 P.t, .int .i64 P.m, .int .i64 P.p, .int .i64 P.n, .slice A la c, .int .u64 P.c, .slice B lb d]] w
    fun e w' => e = .returned (.bool (mayB P)) ∧ Below w.heap.size w w' := by
  obtain ⟨h1, h2⟩ := hA.rd hm
  obtain ⟨h3, h4⟩ := hB.rd hb
  subst h1 h3
  exact may_any P h w h2 h4
theorem GW.cr {w0 w : World} {ad : Addr} {n c : Nat} {P : Array Value} (h : GW w0 ad n c P w) (i : Nat) {v : Value} (hv : z46[i]? = some v) : w.cell? ⟨w0.heap.size + 1, i, none⟩ = some v := (blk_cell h.res i).trans hv
theorem good_1 (l : List Int) (h0 : l.length ≤ 1200) (h1 : 28 ≤ l.length) (hk : l.getD 0 0 = 1) : good l = mayB (parse l) := by
  unfold good
  by_cases h : 28 < l.length
  · rw [decide_eq_true ⟨by omega, by omega, .inl ⟨hk, h⟩⟩, Bool.true_and]
  · have e : mayB (parse l) = false := by
      unfold mayB parse
      rw [if_pos hk]
      refine decide_eq_false ?_
      unfold MayP
      have hl : (l.drop 28).length = 0 := by simp; omega
      dsimp only
      omega
    rw [e, Bool.and_false]
theorem good_2 (l : List Int) (h0 : l.length ≤ 1200) (h1 : 21 ≤ l.length) (hk : l.getD 0 0 = 2) : good l = mayB (parse l) := by
  unfold good
  by_cases h : l.length = 21
  · rw [decide_eq_true ⟨by omega, by omega, .inr (.inl ⟨hk, h⟩)⟩, Bool.true_and]
  · have e : mayB (parse l) = false := by
      unfold mayB parse
      rw [if_neg (by omega), if_pos hk]
      refine decide_eq_false ?_
      unfold MayP
      have hl : (l.drop 5).length = l.length - 5 := by simp
      dsimp only
      omega
    rw [e, Bool.and_false]
theorem good_34 (l : List Int) (h0 : l.length ≤ 1200) (h1 : 13 ≤ l.length) (hk : l.getD 0 0 = 3 ∨ l.getD 0 0 = 4) : good l = mayB (parse l) := by
  unfold good
  by_cases h : 13 < l.length
  · rw [decide_eq_true ⟨by omega, by omega, .inr (.inr ⟨hk, h⟩)⟩, Bool.true_and]
  · have e : mayB (parse l) = false := by
      unfold mayB parse
      rw [if_neg (by omega), if_neg (by omega)]
      refine decide_eq_false ?_
      unfold MayP
      have hl : (l.drop 13).length = 0 := by simp; omega
      dsimp only
      omega
    rw [e, Bool.and_false]
theorem Rd.empty {w : World} {A : Option Addr} {c : Nat} : Rd w A c [] := ⟨Kd.C_of_reads (d := (0 : Int)) ⟨rfl, by simp, fun h => by simp at h⟩, Nat.zero_le _, fun x hx => by cases hx⟩
set_option maxHeartbeats 8000000 in
set_option maxRecDepth 100000 in
theorem get_1 (A : Option Addr) (c : Nat) (l : List Int) (w : World) (h : Rd w A c l) (h0 : l.length ≤ 1200) (h1 : 28 ≤ l.length) (hk : l.getD 0 0 = 1) : Calls Try.prog 25 #[.slice A l.length c] w (GetsO w l) := by
  have hc := h.c
  obtain ⟨ad, rfl, hlt, hx⟩ := h.at (by omega)
  have c0 := hx 0 (by omega)
  rw [hk, show ad.add 0 = ad from rfl] at c0
  have i0 : (l.length : Int) ≤ 1200 := by omega
  have i1 : ((l.length : Int) == 0) = false := by rw [beq_eq_false_iff_ne]; omega
  have i2 : (28 : Int) ≤ l.length := by omega
  have hlt1 : ad.block < w.heap.size + 1 := by omega
  have hlt2 : ad.block < w.heap.size + 1 + 1 := by omega
  have hlt3 : ad.block < w.heap.size + 1 + 1 + 1 := by omega
  obtain ⟨F, hF⟩ : ∃ x, le ((l.take 5).drop 1) = x := ⟨_, rfl⟩
  have bF := le4 h.b 1 5 rfl
  rw [hF] at bF
  obtain ⟨bF0, bF1⟩ := bF
  obtain ⟨T, hT⟩ : ∃ x, le ((l.take 9).drop 5) = x := ⟨_, rfl⟩
  have bT := le4 h.b 5 9 rfl
  rw [hT] at bT
  obtain ⟨bT0, bT1⟩ := bT
  obtain ⟨m, hm⟩ : ∃ x, l.getD 9 0 = x := ⟨_, rfl⟩
  have bm := byte_i h.b 9
  rw [hm] at bm
  obtain ⟨bm0, bm1⟩ := bm
  have c9 := hx 9 (by omega)
  rw [hm] at c9
  have C9 := Lib.hid c9
  obtain ⟨p, hp⟩ : ∃ x, l.getD 10 0 = x := ⟨_, rfl⟩
  have bp := byte_i h.b 10
  rw [hp] at bp
  obtain ⟨bp0, bp1⟩ := bp
  have c10 := hx 10 (by omega)
  rw [hp] at c10
  have C10 := Lib.hid c10
  obtain ⟨n, hn⟩ : ∃ x, l.getD 11 0 = x := ⟨_, rfl⟩
  have bn := byte_i h.b 11
  rw [hn] at bn
  obtain ⟨bn0, bn1⟩ := bn
  have c11 := hx 11 (by omega)
  rw [hn] at c11
  have C11 := Lib.hid c11
  have hP : parse l = ⟨1, F, T, m, p, n, (l.take 28).drop 12, 0, l.drop 28⟩ := by unfold parse; rw [if_pos hk]; rw [hF, hT, hm, hp, hn]
  have hok : (⟨1, F, T, m, p, n, (l.take 28).drop 12, 0, l.drop 28⟩ : Pk).ok := by
    refine ⟨?_, ?_, ?_, ?_, ?_, ?_, ?_⟩ <;> (try unfold I64) <;> dsimp only <;> omega
  have hgo := good_1 l h0 h1 hk
  have H := Lib.hid h
  have K1 : Hid (∀ w', GW w ad l.length c (pcs 1 0 0 0 0 0 (.slice none 0 0) 0 (.slice none 0 0)) w' → Calls Try.prog 37 #[.int .i64 1, .pointer (some ⟨w.heap.size, 0, none⟩)] w' fun e w2 => e = .returned (.int .u32 F) ∧ Below w'.heap.size w' w2) := fun w' g => number_1 ad c l _ w' (h.below g.below) g.box (by omega) F hF
  have K2 : Hid (∀ w', GW w ad l.length c (pcs 1 0 0 0 0 0 (.slice none 0 0) 0 (.slice none 0 0)) w' → Calls Try.prog 37 #[.int .i64 5, .pointer (some ⟨w.heap.size, 0, none⟩)] w' fun e w2 => e = .returned (.int .u32 T) ∧ Below w'.heap.size w' w2) := fun w' g => number_5 ad c l _ w' (h.below g.below) g.box (by omega) T hT
  have KA : Hid (∀ P w', GW w ad l.length c P w' → Calls Try.prog 39 #[.slice (some ⟨ad.block, ad.off + 12, none⟩) 16 (c - 12)] w' fun e w2 => ∃ A' k', e = .returned (.slice A' 16 k') ∧ OwnA w2 (w.heap.size + 1 + 1 + 1 + 1) (.slice A' 16 k') ((l.take 28).drop 12) ∧ Below w'.heap.size w' w2) := fun P w' g => clone_at h (fun w' hw => hw.mid 12 28 (by omega) (by omega) (by omega)) (by simp; omega) (by omega) (by simp; omega) g
  have KB : Hid (¬ c = 28 → ∀ P w', GW w ad l.length c P w' → Calls Try.prog 39 #[.slice (some ⟨ad.block, ad.off + 28, none⟩) (l.length - 28) (c - 28)] w' fun e w2 => ∃ A' k', e = .returned (.slice A' (l.length - 28) k') ∧ OwnA w2 (w.heap.size + 1 + 1 + 1 + 1) (.slice A' (l.length - 28) k') (l.drop 28) ∧ Below w'.heap.size w' w2) := fun hne P w' g => clone_at h (fun w' hw => hw.from 28 (by omega) (by omega)) (by simp) (by omega) (by simp) g
  have KC : Hid (c = 28 → ∀ P w', GW w ad l.length c P w' → Calls Try.prog 39 #[.slice (some ad) 0 0] w' fun e w2 => ∃ A' k', e = .returned (.slice A' 0 k') ∧ OwnA w2 (w.heap.size + 1 + 1 + 1 + 1) (.slice A' 0 k') (l.drop 28) ∧ Below w'.heap.size w' w2) := fun he P w' g => clone_at h (fun w' hw => by rw [show l.drop 28 = [] from List.drop_eq_nil_of_le (by omega)]; exact Rd.empty) (by simp; omega) (by omega) (by simp) g
  have bmac : Bytes ((l.take 28).drop 12) := fun x hx => h.b x (List.mem_of_mem_take (List.mem_of_mem_drop hx))
  have bbod : Bytes (l.drop 28) := fun x hx => h.b x (List.mem_of_mem_drop hx)
  obtain ⟨mb, hmb⟩ : ∃ b, mayB (parse l) = b := ⟨_, rfl⟩
  have KM : Hid (∀ Ax kx Ay ky w', OwnA w' (w.heap.size + 1 + 1 + 1 + 1) (.slice Ax 16 kx) ((l.take 28).drop 12) → OwnA w' (w.heap.size + 1 + 1 + 1 + 1) (.slice Ay (l.length - 28) ky) (l.drop 28) → Calls Try.prog 30 #[.agg #[.int .i64 1, .int .u32 F, .int .u32 T, .int .i64 m, .int .i64 p, .int .i64 n, .slice Ax 16 kx, .int .u64 0, .slice Ay (l.length - 28) ky]] w' fun e w2 => e = .returned (.bool mb) ∧ Below w'.heap.size w' w2) := fun Ax kx Ay ky w' ha hb => by rw [← hmb, hP]; exact may' _ hok w' bmac bbod ha hb
  have L3 : Hid (((l.take 28).drop 12).length = 16) := by show _ = _; simp; omega
  have L4 : Hid ((l.drop 28).length = l.length - 28) := by show _ = _; simp
  have HP := Lib.hid hP
  have HGO := Lib.hid hgo
  have HMB := Lib.hid hmb
  clear hx h hF hT hm hp hn c9 c10 c11 hP hok hgo hmb bmac bbod hk
  go_enter Try.func25, Try.ntmps25
  go_wp2_with fail
  go_quiet ((fail))
  go_upto_region 10 with fail
  go_cut [1, 2, 3, 5, 6, 38] (fun s1 s2 s3 s5 s6 s38 wx => s1 = .pointer (some ⟨w.heap.size, 0, none⟩) ∧ s2 = .pointer (some ⟨w.heap.size + 1, 0, none⟩) ∧ s3 = .int .i64 0 ∧ s5 = .pointer (some ⟨w.heap.size + 1 + 1 + 1, 0, none⟩) ∧ s6 = .func (.func 37) #[] #[.pointer (some ⟨w.heap.size, 0, none⟩)] ∧ s38 = .int .i64 1 ∧ GW w ad l.length c (pcs 1 0 0 0 0 0 (.slice none 0 0) 0 (.slice none 0 0)) wx)
  case first =>
    go_wp2_with fail
    go_meet
    exact ⟨rfl, rfl, rfl, rfl, rfl, rfl, GW.start w ad l.length c 1 _⟩
  case rest =>
    obtain ⟨rfl, rfl, rfl, rfl, rfl, rfl, hG⟩ := hcut
    have HG := Lib.hid hG
    clear hG
    go_upto_block 1 with fail
    go_cut [2, 3, 5] (fun s2 s3 s5 wx => s2 = .pointer (some ⟨w.heap.size + 1, 0, none⟩) ∧ s3 = .int .i64 0 ∧ s5 = .pointer (some ⟨w.heap.size + 1 + 1 + 1, 0, none⟩) ∧ ∃ Ax kx Ay ky, GW w ad l.length c (pcs 1 F T m p n (.slice Ax 16 kx) 0 (.slice Ay (l.length - 28) ky)) wx ∧ OwnA wx (w.heap.size + 1 + 1 + 1 + 1) (.slice Ax 16 kx) ((l.take 28).drop 12) ∧ OwnA wx (w.heap.size + 1 + 1 + 1 + 1) (.slice Ay (l.length - 28) ky) (l.drop 28))
    case first =>
      go_upto_region 12 with fail
      go_cut [1, 2, 3, 5] (fun s1 s2 s3 s5 wx => s1 = .pointer (some ⟨w.heap.size, 0, none⟩) ∧ s2 = .pointer (some ⟨w.heap.size + 1, 0, none⟩) ∧ s3 = .int .i64 0 ∧ s5 = .pointer (some ⟨w.heap.size + 1 + 1 + 1, 0, none⟩) ∧ GW w ad l.length c (pcs 1 F T 0 0 0 (.slice none 0 0) 0 (.slice none 0 0)) wx)
      case first =>
        go_wp2_with fail
        with_reducible refine (K1.out _ HG.out).mono ?_
        rintro e w1 ⟨rfl, hb⟩
        have HG1 := Lib.hid (HG.out.call hb)
        clear hb
        go_wp2_with fail
        with_reducible refine (K2.out _ HG1.out).mono ?_
        rintro e w2 ⟨rfl, hb⟩
        have HG2 := Lib.hid (HG1.out.call hb)
        clear hb
        have g1 := HG2.out.cp 1 (v := .int .u32 0) rfl
        have g2 := HG2.out.cp 2 (v := .int .u32 0) rfl
        have f1 := blk_frozen HG2.out.pk 1
        have f2 := blk_frozen HG2.out.pk 2
        go_wp2_with fail
        go_meet
        exact ⟨rfl, rfl, rfl, rfl, (HG2.out.set 1 _).set 2 _⟩
      case rest =>
        clear HG K1 K2
        obtain ⟨rfl, rfl, rfl, rfl, hG⟩ := hcut
        have HG := Lib.hid hG
        clear hG
        go_upto_region 13 with fail
        go_cut [1, 2, 3, 5] (fun s1 s2 s3 s5 wx => s1 = .pointer (some ⟨w.heap.size, 0, none⟩) ∧ s2 = .pointer (some ⟨w.heap.size + 1, 0, none⟩) ∧ s3 = .int .i64 0 ∧ s5 = .pointer (some ⟨w.heap.size + 1 + 1 + 1, 0, none⟩) ∧ GW w ad l.length c (pcs 1 F T m p n (.slice none 0 0) 0 (.slice none 0 0)) wx)
        case first =>
          clear KA KB KC KM L3 L4 HP HGO HMB c0 i0 i1 i2
          have j9 : (9 : Int) < (l.length : Int) := by omega
          have j10 : (10 : Int) < (l.length : Int) := by omega
          have j11 : (11 : Int) < (l.length : Int) := by omega
          have n9 : 9 < l.length := by omega
          have n10 : 10 < l.length := by omega
          have n11 : 11 < l.length := by omega
          have wm : IntKind.i64.wrap m = m := IntWalk.i64_in _ (by omega)
          have wp : IntKind.i64.wrap p = p := IntWalk.i64_in _ (by omega)
          have wn : IntKind.i64.wrap n = n := IntWalk.i64_in _ (by omega)
          have qb := HG.out.cb
          have q9 := HG.out.old (p := ⟨ad.block, ad.off + 9, none⟩) hlt C9.out
          have q10 := HG.out.old (p := ⟨ad.block, ad.off + 10, none⟩) hlt C10.out
          have q11 := HG.out.old (p := ⟨ad.block, ad.off + 11, none⟩) hlt C11.out
          have g3 := HG.out.cp 3 (v := .int .i64 0) rfl
          have g4 := HG.out.cp 4 (v := .int .i64 0) rfl
          have g5 := HG.out.cp 5 (v := .int .i64 0) rfl
          have f3 := blk_frozen HG.out.pk 3
          have f4 := blk_frozen HG.out.pk 4
          have f5 := blk_frozen HG.out.pk 5
          go_region_held3 (fun w' => w'.cell? ⟨w.heap.size, 0, none⟩ = some (.slice (some ad) l.length c) ∧ w'.cell? ⟨ad.block, ad.off + 9, none⟩ = some (.int .u8 m) ∧ w'.cell? ⟨ad.block, ad.off + 10, none⟩ = some (.int .u8 p) ∧ w'.cell? ⟨ad.block, ad.off + 11, none⟩ = some (.int .u8 n)) (first | ((try go_split_ands); refine ⟨?_, ?_, ?_, ?_⟩ <;> first | assumption | (refine keep1 ?_ ?_; ((try dsimp only); omega); assumption)) | go_keep) (fail)
          all_goals go_wp2_with fail
          all_goals go_meet
          all_goals exact ⟨rfl, rfl, rfl, rfl, (((HG.out.set 3 _).set 4 _).set 5 _).drew⟩
        case rest =>
          clear HG
          obtain ⟨rfl, rfl, rfl, rfl, hG⟩ := hcut
          have HG := Lib.hid hG
          clear hG
          have j9 : (28 : Int) ≤ (l.length : Int) := by omega
          have n9 : 28 ≤ l.length := by omega
          have j8 : (28 : Int) ≤ (c : Int) := by omega
          have n8 : 28 ≤ c := by omega
          have n6 : ¬ c = 12 := by omega
          have qb := HG.out.cb
          have g6 := HG.out.cp 6 (v := .slice none 0 0) rfl
          have g8 := HG.out.cp 8 (v := .slice none 0 0) rfl
          have f6 := blk_frozen HG.out.pk 6
          have f8 := blk_frozen HG.out.pk 8
          by_cases n7 : c = 28
          · subst n7
            have KX := Lib.hid (KC.out rfl)
            clear KB KC
            go_wp2_with fail
            go_region_held3 (fun w' => w'.cell? ⟨w.heap.size, 0, none⟩ = some (.slice (some ad) l.length 28)) (first | assumption | (refine keep0 ?_ ?_; ((try dsimp only); omega); assumption) | (refine keep1 ?_ ?_; ((try dsimp only); omega); assumption) | go_keep)
              (first
                | (go_at_call 39; (with_reducible refine (KA.out _ _ HG.out.drew).mono ?_); rintro e w1 ⟨Ax, kx, rfl, hO, hb⟩; have HGA := Lib.hid (GW.call HG.out.drew hb); have HOA := Lib.hid hO; have qbA := HGA.out.cb; have p6A := HGA.out.cp 6 (v := .slice none 0 0) rfl; have p8A := HGA.out.cp 8 (v := .slice none 0 0) rfl; have z6A := blk_frozen HGA.out.pk 6; have z8A := blk_frozen HGA.out.pk 8; clear hO hb)
                | (go_at_call 39; (with_reducible refine (KX.out _ _ HGA.out).mono ?_); rintro e w2 ⟨Ay, ky, rfl, hO, hb⟩; have HGB := Lib.hid (GW.call HGA.out hb); have HOA2 := Lib.hid (OwnA.below HOA.out hb); have HOB := Lib.hid hO; have qbB := HGB.out.cb; have p6B := HGB.out.cp 6 (v := .slice none 0 0) rfl; have p8B := HGB.out.cp 8 (v := .slice none 0 0) rfl; have z6B := blk_frozen HGB.out.pk 6; have z8B := blk_frozen HGB.out.pk 8; clear hO hb))
            all_goals go_wp2_with fail
            all_goals go_meet
            all_goals (rw [show l.length - 28 = 0 by omega]; exact ⟨rfl, rfl, rfl, Ax, kx, Ay, ky, (HGB.out.set 6 _).set 8 _, (HOA2.out.set (p := ⟨w.heap.size + 1 + 1 + 1, 6, none⟩) (by dsimp only; omega) _).set (p := ⟨w.heap.size + 1 + 1 + 1, 8, none⟩) (by dsimp only; omega) _, (HOB.out.set (p := ⟨w.heap.size + 1 + 1 + 1, 6, none⟩) (by dsimp only; omega) _).set (p := ⟨w.heap.size + 1 + 1 + 1, 8, none⟩) (by dsimp only; omega) _⟩)
          · have KX := Lib.hid (KB.out n7)
            clear KB KC
            go_wp2_with fail
            go_region_held3 (fun w' => w'.cell? ⟨w.heap.size, 0, none⟩ = some (.slice (some ad) l.length c)) (first | assumption | (refine keep0 ?_ ?_; ((try dsimp only); omega); assumption) | (refine keep1 ?_ ?_; ((try dsimp only); omega); assumption) | go_keep)
              (first
                | (go_at_call 39; (with_reducible refine (KA.out _ _ HG.out.drew).mono ?_); rintro e w1 ⟨Ax, kx, rfl, hO, hb⟩; have HGA := Lib.hid (GW.call HG.out.drew hb); have HOA := Lib.hid hO; have qbA := HGA.out.cb; have p6A := HGA.out.cp 6 (v := .slice none 0 0) rfl; have p8A := HGA.out.cp 8 (v := .slice none 0 0) rfl; have z6A := blk_frozen HGA.out.pk 6; have z8A := blk_frozen HGA.out.pk 8; clear hO hb)
                | (go_at_call 39; (with_reducible refine (KX.out _ _ HGA.out).mono ?_); rintro e w2 ⟨Ay, ky, rfl, hO, hb⟩; have HGB := Lib.hid (GW.call HGA.out hb); have HOA2 := Lib.hid (OwnA.below HOA.out hb); have HOB := Lib.hid hO; have qbB := HGB.out.cb; have p6B := HGB.out.cp 6 (v := .slice none 0 0) rfl; have p8B := HGB.out.cp 8 (v := .slice none 0 0) rfl; have z6B := blk_frozen HGB.out.pk 6; have z8B := blk_frozen HGB.out.pk 8; clear hO hb))
            all_goals go_wp2_with fail
            all_goals go_meet
            all_goals exact ⟨rfl, rfl, rfl, Ax, kx, Ay, ky, (HGB.out.set 6 _).set 8 _, (HOA2.out.set (p := ⟨w.heap.size + 1 + 1 + 1, 6, none⟩) (by dsimp only; omega) _).set (p := ⟨w.heap.size + 1 + 1 + 1, 8, none⟩) (by dsimp only; omega) _, (HOB.out.set (p := ⟨w.heap.size + 1 + 1 + 1, 6, none⟩) (by dsimp only; omega) _).set (p := ⟨w.heap.size + 1 + 1 + 1, 8, none⟩) (by dsimp only; omega) _⟩
    case rest =>
      clear HG K1 K2 KA KB KC C9 C10 C11
      obtain ⟨rfl, rfl, rfl, Ax, kx, Ay, ky,  hG, hHOA, hHOB⟩ := hcut
      have HG := Lib.hid hG
      have HOA := Lib.hid hHOA
      have HOB := Lib.hid hHOB
      have p0 := hG.cp 0 (v := .int .i64 1) rfl
      have p1 := hG.cp 1 (v := .int .u32 F) rfl
      have p2 := hG.cp 2 (v := .int .u32 T) rfl
      have p3 := hG.cp 3 (v := .int .i64 m) rfl
      have p4 := hG.cp 4 (v := .int .i64 p) rfl
      have p5 := hG.cp 5 (v := .int .i64 n) rfl
      have p6 := hG.cp 6 (v := .slice Ax 16 kx) rfl
      have p7 := hG.cp 7 (v := .int .u64 0) rfl
      have p8 := hG.cp 8 (v := .slice Ay (l.length - 28) ky) rfl
      clear hG hHOA hHOB
      go_wp2_with fail
      with_reducible refine (KM.out _ _ _ _ _ HOA.out HOB.out).mono ?_
      rintro e w3 ⟨rfl, hb⟩
      have HG3 := Lib.hid (HG.out.call hb)
      have HOA3 := Lib.hid (OwnA.below HOA.out hb)
      have HOB3 := Lib.hid (OwnA.below HOB.out hb)
      clear hb p0 p1 p2 p3 p4 p5 p6 p7 p8
      have p0 := HG3.out.cp 0 (v := .int .i64 1) rfl
      have p1 := HG3.out.cp 1 (v := .int .u32 F) rfl
      have p2 := HG3.out.cp 2 (v := .int .u32 T) rfl
      have p3 := HG3.out.cp 3 (v := .int .i64 m) rfl
      have p4 := HG3.out.cp 4 (v := .int .i64 p) rfl
      have p5 := HG3.out.cp 5 (v := .int .i64 n) rfl
      have p6 := HG3.out.cp 6 (v := .slice Ax 16 kx) rfl
      have p7 := HG3.out.cp 7 (v := .int .u64 0) rfl
      have p8 := HG3.out.cp 8 (v := .slice Ay (l.length - 28) ky) rfl
      have r0 := HG3.out.cr 0 (v := .int .i64 0) rfl
      have r1 := HG3.out.cr 1 (v := .int .u32 0) rfl
      have r2 := HG3.out.cr 2 (v := .int .u32 0) rfl
      have r3 := HG3.out.cr 3 (v := .int .i64 0) rfl
      have r4 := HG3.out.cr 4 (v := .int .i64 0) rfl
      have r5 := HG3.out.cr 5 (v := .int .i64 0) rfl
      have r6 := HG3.out.cr 6 (v := .slice none 0 0) rfl
      have r7 := HG3.out.cr 7 (v := .int .u64 0) rfl
      have r8 := HG3.out.cr 8 (v := .slice none 0 0) rfl
      have f0 := blk_frozen HG3.out.res 0
      have f1 := blk_frozen HG3.out.res 1
      have f2 := blk_frozen HG3.out.res 2
      have f3 := blk_frozen HG3.out.res 3
      have f4 := blk_frozen HG3.out.res 4
      have f5 := blk_frozen HG3.out.res 5
      have f6 := blk_frozen HG3.out.res 6
      have f7 := blk_frozen HG3.out.res 7
      have f8 := blk_frozen HG3.out.res 8
      cases mb
      · have hg : good l = false := HGO.out.trans HMB.out
        have hn : errn l = 40 := by unfold errn; rw [if_neg (by omega), if_neg (by omega), if_neg (by rw [hg]; simp)]
        have HGF := Lib.hid hg
        have HN := Lib.hid hn
        clear hg hn
        go_wp2
        exact ret_pk45 rfl (w.heap.size + 1) _ (.int .i64 40) rfl rfl (set9 _ _ _ _ _ _ _ _ _ HG3.out.res) (by kernel_rfl) rfl (getsO_bad HGF.out HN.out (by repeat (first | (with_reducible exact HG3.out.below) | (with_reducible refine Below.setCell ?_ (by simp) _))))
      · have hg : good l = true := HGO.out.trans HMB.out
        have hn : errn l = 0 := by unfold errn; rw [if_neg (by omega), if_neg (by omega), if_pos hg]
        have HGF := Lib.hid hg
        have HN := Lib.hid hn
        clear hg hn
        go_wp2
        refine ret_pk45 rfl (w.heap.size + 1) _ (.int .i64 0) rfl rfl (set9 _ _ _ _ _ _ _ _ _ HG3.out.res) (by kernel_rfl) rfl ?_
        exact getsO_good HGF.out HN.out HP.out L3.out L4.out (OwnA.lower (base := w.heap.size + 1 + 1 + 1 + 1) (by repeat (first | (with_reducible exact HOA3.out) | (with_reducible refine OwnA.set ?_ (by dsimp only; omega) _))) (by omega)) (OwnA.lower (base := w.heap.size + 1 + 1 + 1 + 1) (by repeat (first | (with_reducible exact HOB3.out) | (with_reducible refine OwnA.set ?_ (by dsimp only; omega) _))) (by omega)) (by repeat (first | (with_reducible exact HG3.out.below) | (with_reducible refine Below.setCell ?_ (by simp) _)))
end Go.Proofs.Ytkcjgkfgjbhfnaa
