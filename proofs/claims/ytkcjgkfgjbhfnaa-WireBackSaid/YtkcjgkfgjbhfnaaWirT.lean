import Derived.Test.YtkcjgkfgjbhfnaaWirR
import Derived.Test.YtkcjgkfgjbhfnaaRg1
set_option linter.unusedVariables false
set_option linter.unusedSimpArgs false
namespace Go.Proofs.Ytkcjgkfgjbhfnaa
open Go.RowKit Go.Proofs.YtkcjgkfgjbhfnaaW.PrintWords Go.Proofs.YtkcjgkfgjbhfnaaW.PrintLast Go.Proofs.YtkcjgkfgjbhfnaaW.PrintMore
theorem rload4 (l : List Int) (hl : l.length = 4) (hb : Bytes l) : Wg.redanref01_Load.f 20 l = some (le l) := by
  match l, hl with
  | [a, b, c, d], _ =>
    have k_a : 0 ≤ a ∧ a ≤ 255 := hb a (by simp)
    have k_b : 0 ≤ b ∧ b ≤ 255 := hb b (by simp)
    have k_c : 0 ≤ c ∧ c ≤ 255 := hb c (by simp)
    have k_d : 0 ≤ d ∧ d ≤ 255 := hb d (by simp)
    clear hb
    simp [Wg.redanref01_Load.f, Wg.redanref01_Load.l0, Wg.redanref01_Load.j0, rd, wrap64, IntKind.wrap, IntKind.signed, IntKind.bits, le]
    omega
theorem rload8 (l : List Int) (hl : l.length = 8) (hb : Bytes l) : Wg.redanref01_Load.f 20 l = some (le l) := by
  match l, hl with
  | [a, b, c, d, e, f, g, h], _ =>
    have k_a : 0 ≤ a ∧ a ≤ 255 := hb a (by simp)
    have k_b : 0 ≤ b ∧ b ≤ 255 := hb b (by simp)
    have k_c : 0 ≤ c ∧ c ≤ 255 := hb c (by simp)
    have k_d : 0 ≤ d ∧ d ≤ 255 := hb d (by simp)
    have k_e : 0 ≤ e ∧ e ≤ 255 := hb e (by simp)
    have k_f : 0 ≤ f ∧ f ≤ 255 := hb f (by simp)
    have k_g : 0 ≤ g ∧ g ≤ 255 := hb g (by simp)
    have k_h : 0 ≤ h ∧ h ≤ 255 := hb h (by simp)
    clear hb
    simp [Wg.redanref01_Load.f, Wg.redanref01_Load.l0, Wg.redanref01_Load.j0, rd, wrap64, IntKind.wrap, IntKind.signed, IntKind.bits, le]
    omega
theorem rcload {A : Option Addr} {c n : Nat} {l : List Int} (w : World) (h : Rd w A c l) (hl : l.length = n) (hn : n = 4 ∨ n = 8) : Calls Try.prog 40 #[.slice A n c] w fun e w' => e = .returned (.int .u64 (le l)) ∧ Below w.heap.size w w' := by
  have := Wg.redanref01_Load.calls 20 A c l (le l) w h.r h.c (by rcases hn with e | e <;> subst e; exact rload4 l hl h.b; exact rload8 l hl h.b)
  rw [hl] at this
  exact this.mono (fun e w' ⟨h1, h2⟩ => ⟨h1, h2.below⟩)
theorem same_any (P : Pk) {A B A' B' : Option Addr} {c d c' d' : Nat} (w : World) (hA : Rd w A c P.mac) (hB : Rd w B d P.body) (hA' : Rd w A' c' P.mac) (hB' : Rd w B' d' P.body) :
    Calls Try.prog 27 #[.agg #[.int .i64 P.k, .int .u32 P.f, .int .u32 P.t, .int .i64 P.m, .int .i64 P.p, .int .i64 P.n, .slice A P.mac.length c, .int .u64 P.c, .slice B P.body.length d],
      .agg #[.int .i64 P.k, .int .u32 P.f, .int .u32 P.t, .int .i64 P.m, .int .i64 P.p, .int .i64 P.n, .slice A' P.mac.length c', .int .u64 P.c, .slice B' P.body.length d']] w
    fun e w' => e = .returned (.bool true) ∧ Below w.heap.size w w' := by
  refine Wg.redanref18_Same.calls P.k P.f P.t P.m P.p P.n A c P.mac P.c B d P.body P.k P.f P.t P.m P.p P.n A' c' P.mac P.c B' d' P.body _ w hA.r hA.c hB.r hB.c hA'.r hA'.c hB'.r hB'.c ?_
  unfold Wg.redanref18_Same.f
  simp
theorem rmay' (P : Pk) (h : P.ok) {A B : Option Addr} {c d la lb : Nat} (hla : P.mac.length = la) (hlb : P.body.length = lb) (w : World) (hA : Rd w A c P.mac) (hB : Rd w B d P.body) :
    Calls Try.prog 21 #[.agg #[.int .i64 P.k, .int .u32 P.f, .int .u32 P.t, .int .i64 P.m, .int .i64 P.p, .int .i64 P.n, .slice A la c, .int .u64 P.c, .slice B lb d]] w
    fun e w' => e = .returned (.bool (mayB P)) ∧ Below w.heap.size w w' := by
  subst hla hlb
  exact rmay_any P h w hA hB
set_option maxHeartbeats 1000000 in
theorem rget_long (A : Option Addr) (c : Nat) (l : List Int) (w : World) (h : Rd w A c l) (hl : l.length ≤ 100000) (h1 : 1200 < l.length) : Calls Try.prog 26 #[.slice A l.length c] w (Gets w l) := by
  have hg : good l = false := by unfold good; rw [decide_eq_false (by omega)]; rfl
  have hn : errn l = 14 := by unfold errn; rw [if_pos h1]
  have HG := Lib.hid hg
  have HN := Lib.hid hn
  clear hg hn
  go_enter Try.func26, Try.ntmps26
  go_wp2
  exact bodyPost_ret (v := .tuple #[.agg #[.int .i64 0, .int .u32 0, .int .u32 0, .int .i64 0, .int .i64 0, .int .i64 0, .slice none 0 0, .int .u64 0, .slice none 0 0], .int .i64 14]) (by simp [results, Try.results26, go_sem]) rfl (gets_bad HG.out HN.out (by repeat (first | (with_reducible exact Below.refl _ _) | (with_reducible refine Below.setCell ?_ (by simp) _) | (with_reducible refine Below.alloc ?_ (by simp) _))))
set_option maxHeartbeats 1000000 in
set_option maxRecDepth 100000 in
theorem rget_1 (A : Option Addr) (c : Nat) (l : List Int) (w : World) (h : Rd w A c l) (h0 : l.length ≤ 1200) (h1 : 28 < l.length) (hk : l.getD 0 0 = 1) : Calls Try.prog 26 #[.slice A l.length c] w (Gets w l) := by
  have hc := h.c
  obtain ⟨ad, rfl, hlt, hx⟩ := h.at (by omega)
  have r1 := fun w' (hw : Rd w' (some ad) c l) => hw.mid 1 5 (by omega) (by omega) (by omega)
  have r2 := fun w' (hw : Rd w' (some ad) c l) => hw.mid 5 9 (by omega) (by omega) (by omega)
  have r3 := fun w' (hw : Rd w' (some ad) c l) => hw.mid 12 28 (by omega) (by omega) (by omega)
  have r4 := fun w' (hw : Rd w' (some ad) c l) => hw.from 28 (by omega) (by omega)
  obtain ⟨F, hF⟩ : ∃ x, le ((l.take 5).drop 1) = x := ⟨_, rfl⟩
  have bF := le4 h.b 1 5 rfl
  rw [hF] at bF
  obtain ⟨bF0, bF1⟩ := bF
  obtain ⟨T, hT⟩ : ∃ x, le ((l.take 9).drop 5) = x := ⟨_, rfl⟩
  have bT := le4 h.b 5 9 rfl
  rw [hT] at bT
  obtain ⟨bT0, bT1⟩ := bT
  obtain ⟨m, hm⟩ : ∃ x, l.getD 9 0 = x := ⟨_, rfl⟩
  have bm := byte_i h.b 9
  rw [hm] at bm
  obtain ⟨bm0, bm1⟩ := bm
  have c9 := hx 9 (by omega)
  rw [hm] at c9
  have C9 := Lib.hid c9
  obtain ⟨p, hp⟩ : ∃ x, l.getD 10 0 = x := ⟨_, rfl⟩
  have bp := byte_i h.b 10
  rw [hp] at bp
  obtain ⟨bp0, bp1⟩ := bp
  have c10 := hx 10 (by omega)
  rw [hp] at c10
  have C10 := Lib.hid c10
  obtain ⟨n, hn⟩ : ∃ x, l.getD 11 0 = x := ⟨_, rfl⟩
  have bn := byte_i h.b 11
  rw [hn] at bn
  obtain ⟨bn0, bn1⟩ := bn
  have c11 := hx 11 (by omega)
  rw [hn] at c11
  have C11 := Lib.hid c11
  have c0 := hx 0 (by omega)
  rw [hk, show ad.add 0 = ad from rfl] at c0
  have i0 : (l.length : Int) ≤ 1200 := by omega
  have i1 : ((l.length : Int) == 0) = false := by rw [beq_eq_false_iff_ne]; omega
  have i2 : (28 : Int) < l.length := by omega
  have hP : parse l = ⟨1, F, T, m, p, n, (l.take 28).drop 12, 0, l.drop 28⟩ := by unfold parse; rw [if_pos hk]; rw [hF, hT, hm, hp, hn]
  have hok : (⟨1, F, T, m, p, n, (l.take 28).drop 12, 0, l.drop 28⟩ : Pk).ok := by
    refine ⟨?_, ?_, ?_, ?_, ?_, ?_, ?_⟩ <;> (try unfold I64) <;> dsimp only <;> omega
  have hgo : good l = mayB (parse l) := by unfold good; rw [decide_eq_true ⟨by omega, by omega, .inl ⟨hk, h1⟩⟩, Bool.true_and]
  have l1 : ((l.take 5).drop 1).length = 4 := by simp <;> omega
  have l2 : ((l.take 9).drop 5).length = 4 := by simp <;> omega
  have l3 : ((l.take 28).drop 12).length = 16 := by simp <;> omega
  have l4 : (l.drop 28).length = l.length - 28 := by simp <;> omega
  have k1 : ∀ w', Rd w' (some ad) c l → Calls Try.prog 40 #[.slice (some ⟨ad.block, ad.off + 1, none⟩) 4 (c - 1)] w' fun e w2 => e = .returned (.int .u64 F) ∧ Below w'.heap.size w' w2 := fun w' hw => by rw [← hF]; exact rcload w' (r1 w' hw) l1 (.inl rfl)
  have k2 : ∀ w', Rd w' (some ad) c l → Calls Try.prog 40 #[.slice (some ⟨ad.block, ad.off + 5, none⟩) 4 (c - 5)] w' fun e w2 => e = .returned (.int .u64 T) ∧ Below w'.heap.size w' w2 := fun w' hw => by rw [← hT]; exact rcload w' (r2 w' hw) l2 (.inl rfl)
  have kk : ∀ w', Rd w' (some ad) c l → Calls Try.prog 21 #[.agg #[.int .i64 1, .int .u32 F, .int .u32 T, .int .i64 m, .int .i64 p, .int .i64 n, .slice (some ⟨ad.block, ad.off + 12, none⟩) (16) (c - 12), .int .u64 0, .slice (some ⟨ad.block, ad.off + 28, none⟩) (l.length - 28) (c - 28)]] w' fun e w2 => e = .returned (.bool (mayB (parse l))) ∧ Below w'.heap.size w' w2 := fun w' hw => by
    rw [hP]
    exact rmay' _ hok l3 l4 w' (r3 w' hw) (r4 w' hw)
  have H := Lib.hid h
  have R3 := Lib.hid r3
  have L3 := Lib.hid l3
  have R4 := Lib.hid r4
  have L4 := Lib.hid l4
  have K1 := Lib.hid k1
  have K2 := Lib.hid k2
  have KK := Lib.hid kk
  have HP := Lib.hid hP
  have HGO := Lib.hid hgo
  clear h hk hP hok hgo kk hx r1 r2 r3 r4 l1 l2 l3 l4 k1 k2 hF hT hm hp hn c9 c10 c11
  obtain ⟨mb, hmb⟩ : ∃ b, mayB (parse l) = b := ⟨_, rfl⟩
  rw [hmb] at KK
  have HMB := Lib.hid hmb
  clear hmb
  have HR0 : Hid (((w.alloc (.cells #[.int .i64 0, .int .u32 0, .int .u32 0, .int .i64 0, .int .i64 0, .int .i64 0, .slice none 0 0, .int .u64 0, .slice none 0 0] 46)).alloc (.cells #[.int .i64 1, .int .u32 0, .int .u32 0, .int .i64 0, .int .i64 0, .int .i64 0, .slice none 0 0, .int .u64 0, .slice none 0 0] 46)).heap[w.heap.size]? = some (.cells z46 46 (0, 0))) := heap_alloc2_old w _ _
  go_enter Try.func26, Try.ntmps26
  go_wp2_with fail
  with_reducible refine (K1.out _ (H.out.below ?_)).mono ?_
  · (repeat (first | (with_reducible exact Below.refl _ _) | (with_reducible refine Below.setCell ?_ (by simp; try omega) _) | (with_reducible refine Below.alloc ?_ (by simp; try omega) _)))
  rintro e w1 ⟨rfl, hb⟩
  obtain ⟨hc1, hf1⟩ := bcell hb
  have hb' : Below w.heap.size w w1 := Below.trans (by repeat (first | (with_reducible exact Below.refl _ _) | (with_reducible refine Below.setCell ?_ (by simp; try omega) _) | (with_reducible refine Below.alloc ?_ (by simp; try omega) _))) (hb.mono (by simp; omega))
  have HR1 : Hid (w1.heap[w.heap.size]? = some (.cells z46 46 (0, 0))) := ((hb.block w.heap.size (by simp; omega)).trans (by repeat (first | (with_reducible exact HR0.out) | (with_reducible refine blk_far' (by simp) ?_))))
  have hz1 : w.heap.size + 1 < w1.heap.size := by have := hb.size; simp at this; omega
  have hy1 : w.heap.size < w1.heap.size := by omega
  have HB1 := Lib.hid hb'
  clear hb hb'
  go_wp2_with fail
  with_reducible refine (K2.out _ (H.out.below ?_)).mono ?_
  · (repeat (first | (with_reducible exact HB1.out) | (with_reducible refine Below.setCell ?_ (by simp; try omega) _) | (with_reducible refine Below.alloc ?_ (by simp; try omega) _)))
  rintro e w2 ⟨rfl, hb⟩
  obtain ⟨hc2, hf2⟩ := bcell hb
  have hb' : Below w.heap.size w w2 := Below.trans (by repeat (first | (with_reducible exact HB1.out) | (with_reducible refine Below.setCell ?_ (by simp; try omega) _) | (with_reducible refine Below.alloc ?_ (by simp; try omega) _))) (hb.mono (by simp; omega))
  have HR2 : Hid (w2.heap[w.heap.size]? = some (.cells z46 46 (0, 0))) := ((hb.block w.heap.size (by simp; omega)).trans (by repeat (first | (with_reducible exact HR1.out) | (with_reducible refine blk_far' (by simp) ?_))))
  have hz2 : w.heap.size + 1 < w2.heap.size := by have := hb.size; simp at this; omega
  have hy2 : w.heap.size < w2.heap.size := by omega
  have q9 : w2.cell? ⟨ad.block, ad.off + 9, none⟩ = some (.int .u8 m) := (hb'.cell (p := ad.add 9) hlt).trans C9.out
  have q10 : w2.cell? ⟨ad.block, ad.off + 10, none⟩ = some (.int .u8 p) := (hb'.cell (p := ad.add 10) hlt).trans C10.out
  have q11 : w2.cell? ⟨ad.block, ad.off + 11, none⟩ = some (.int .u8 n) := (hb'.cell (p := ad.add 11) hlt).trans C11.out
  have hne : ad.block ≠ w.heap.size + 1 := by omega
  have HB2 := Lib.hid hb'
  clear hb hb'
  go_wp2_with fail
  with_reducible refine (KK.out _ (H.out.below ?_)).mono ?_
  · (repeat (first | (with_reducible exact HB2.out) | (with_reducible refine Below.setCell ?_ (by simp; try omega) _) | (with_reducible refine Below.alloc ?_ (by simp; try omega) _)))
  rintro e w3 ⟨rfl, hb⟩
  obtain ⟨hc3, hf3⟩ := bcell hb
  have hb' : Below w.heap.size w w3 := Below.trans (by repeat (first | (with_reducible exact HB2.out) | (with_reducible refine Below.setCell ?_ (by simp; try omega) _) | (with_reducible refine Below.alloc ?_ (by simp; try omega) _))) (hb.mono (by simp; omega))
  have HR3 : Hid (w3.heap[w.heap.size]? = some (.cells z46 46 (0, 0))) := ((hb.block w.heap.size (by simp; omega)).trans (by repeat (first | (with_reducible exact HR2.out) | (with_reducible refine blk_far' (by simp) ?_))))
  have hz3 : w.heap.size + 1 < w3.heap.size := by have := hb.size; simp at this; omega
  have hy3 : w.heap.size < w3.heap.size := by omega
  have HB3 := Lib.hid hb'
  clear hb hb'
  cases mb
  · have hg : good l = false := HGO.out.trans HMB.out
    have hn : errn l = 40 := by unfold errn; rw [if_neg (by omega), if_neg (by omega), if_neg (by rw [hg]; simp)]
    have HG := Lib.hid hg
    have HN := Lib.hid hn
    clear hg hn
    go_wp2
    exact ret_pk46 rfl w.heap.size _ (.int .i64 40) rfl rfl (set9 _ _ _ _ _ _ _ _ _ HR3.out) (by kernel_rfl) rfl (gets_bad HG.out HN.out (by repeat (first | (with_reducible exact HB3.out) | (with_reducible refine Below.setCell ?_ (by simp) _))))
  · have hg : good l = true := HGO.out.trans HMB.out
    have hn : errn l = 0 := by unfold errn; rw [if_neg (by omega), if_neg (by omega), if_pos hg]
    have HG := Lib.hid hg
    have HN := Lib.hid hn
    clear hg hn
    go_wp2
    refine ret_pk46 rfl w.heap.size _ (.int .i64 0) rfl rfl (set9 _ _ _ _ _ _ _ _ _ HR3.out) (by kernel_rfl) rfl ?_
    exact gets_good HG.out HN.out HP.out L3.out L4.out (R3.out _ (H.out.below (by repeat (first | (with_reducible exact HB3.out) | (with_reducible refine Below.setCell ?_ (by simp) _))))) (R4.out _ (H.out.below (by repeat (first | (with_reducible exact HB3.out) | (with_reducible refine Below.setCell ?_ (by simp) _))))) (by repeat (first | (with_reducible exact HB3.out) | (with_reducible refine Below.setCell ?_ (by simp) _)))
set_option maxHeartbeats 1000000 in
set_option maxRecDepth 100000 in
theorem rget_2 (A : Option Addr) (c : Nat) (l : List Int) (w : World) (h : Rd w A c l) (h0 : l.length ≤ 1200) (h1 : l.length = 21) (hk : l.getD 0 0 = 2) : Calls Try.prog 26 #[.slice A l.length c] w (Gets w l) := by
  have hc := h.c
  obtain ⟨ad, rfl, hlt, hx⟩ := h.at (by omega)
  have r1 := fun w' (hw : Rd w' (some ad) c l) => hw.mid 1 5 (by omega) (by omega) (by omega)
  have r2 := fun w' (hw : Rd w' (some ad) c l) => hw.from 5 (by omega) (by omega)
  obtain ⟨T, hT⟩ : ∃ x, le ((l.take 5).drop 1) = x := ⟨_, rfl⟩
  have bT := le4 h.b 1 5 rfl
  rw [hT] at bT
  obtain ⟨bT0, bT1⟩ := bT
  have c0 := hx 0 (by omega)
  rw [hk, show ad.add 0 = ad from rfl] at c0
  have i0 : (l.length : Int) ≤ 1200 := by omega
  have i1 : ((l.length : Int) == 0) = false := by rw [beq_eq_false_iff_ne]; omega
  have i2 : ((l.length : Int) == 21) = true := by rw [beq_iff_eq]; omega
  have i3 : 21 ≤ l.length := by omega
  have hP : parse l = ⟨2, 0, T, 0, 0, 0, l.drop 5, 0, []⟩ := by unfold parse; rw [if_neg (by omega), if_pos hk]; rw [hT]
  have hok : (⟨2, 0, T, 0, 0, 0, l.drop 5, 0, []⟩ : Pk).ok := by
    refine ⟨?_, ?_, ?_, ?_, ?_, ?_, ?_⟩ <;> (try unfold I64) <;> dsimp only <;> omega
  have hgo : good l = mayB (parse l) := by unfold good; rw [decide_eq_true ⟨by omega, by omega, .inr (.inl ⟨hk, h1⟩)⟩, Bool.true_and]
  have l1 : ((l.take 5).drop 1).length = 4 := by simp <;> omega
  have l2 : (l.drop 5).length = l.length - 5 := by simp <;> omega
  have k1 : ∀ w', Rd w' (some ad) c l → Calls Try.prog 40 #[.slice (some ⟨ad.block, ad.off + 1, none⟩) 4 (c - 1)] w' fun e w2 => e = .returned (.int .u64 T) ∧ Below w'.heap.size w' w2 := fun w' hw => by rw [← hT]; exact rcload w' (r1 w' hw) l1 (.inl rfl)
  have kk : ∀ w', Rd w' (some ad) c l → Calls Try.prog 21 #[.agg #[.int .i64 2, .int .u32 0, .int .u32 T, .int .i64 0, .int .i64 0, .int .i64 0, .slice (some ⟨ad.block, ad.off + 5, none⟩) (l.length - 5) (c - 5), .int .u64 0, .slice none 0 0]] w' fun e w2 => e = .returned (.bool (mayB (parse l))) ∧ Below w'.heap.size w' w2 := fun w' hw => by
    rw [hP]
    exact rmay' _ hok l2 rfl w' (r2 w' hw) (rd_nil _)
  have H := Lib.hid h
  have H1 := Lib.hid h1
  clear h1
  have R2 := Lib.hid r2
  have L2 := Lib.hid l2
  have K1 := Lib.hid k1
  have KK := Lib.hid kk
  have HP := Lib.hid hP
  have HGO := Lib.hid hgo
  clear h hk hP hok hgo kk hx r1 r2 l1 l2 k1 hT
  obtain ⟨mb, hmb⟩ : ∃ b, mayB (parse l) = b := ⟨_, rfl⟩
  rw [hmb] at KK
  have HMB := Lib.hid hmb
  clear hmb
  have HR0 : Hid (((w.alloc (.cells #[.int .i64 0, .int .u32 0, .int .u32 0, .int .i64 0, .int .i64 0, .int .i64 0, .slice none 0 0, .int .u64 0, .slice none 0 0] 46)).alloc (.cells #[.int .i64 2, .int .u32 0, .int .u32 0, .int .i64 0, .int .i64 0, .int .i64 0, .slice none 0 0, .int .u64 0, .slice none 0 0] 46)).heap[w.heap.size]? = some (.cells z46 46 (0, 0))) := heap_alloc2_old w _ _
  go_enter Try.func26, Try.ntmps26
  go_wp2_with fail
  with_reducible refine (K1.out _ (H.out.below ?_)).mono ?_
  · (repeat (first | (with_reducible exact Below.refl _ _) | (with_reducible refine Below.setCell ?_ (by simp; try omega) _) | (with_reducible refine Below.alloc ?_ (by simp; try omega) _)))
  rintro e w1 ⟨rfl, hb⟩
  obtain ⟨hc1, hf1⟩ := bcell hb
  have hb' : Below w.heap.size w w1 := Below.trans (by repeat (first | (with_reducible exact Below.refl _ _) | (with_reducible refine Below.setCell ?_ (by simp; try omega) _) | (with_reducible refine Below.alloc ?_ (by simp; try omega) _))) (hb.mono (by simp; omega))
  have HR1 : Hid (w1.heap[w.heap.size]? = some (.cells z46 46 (0, 0))) := ((hb.block w.heap.size (by simp; omega)).trans (by repeat (first | (with_reducible exact HR0.out) | (with_reducible refine blk_far' (by simp) ?_))))
  have hz1 : w.heap.size + 1 < w1.heap.size := by have := hb.size; simp at this; omega
  have hy1 : w.heap.size < w1.heap.size := by omega
  have HB1 := Lib.hid hb'
  clear hb hb'
  go_wp2_with fail
  with_reducible refine (KK.out _ (H.out.below ?_)).mono ?_
  · (repeat (first | (with_reducible exact HB1.out) | (with_reducible refine Below.setCell ?_ (by simp; try omega) _) | (with_reducible refine Below.alloc ?_ (by simp; try omega) _)))
  rintro e w2 ⟨rfl, hb⟩
  obtain ⟨hc2, hf2⟩ := bcell hb
  have hb' : Below w.heap.size w w2 := Below.trans (by repeat (first | (with_reducible exact HB1.out) | (with_reducible refine Below.setCell ?_ (by simp; try omega) _) | (with_reducible refine Below.alloc ?_ (by simp; try omega) _))) (hb.mono (by simp; omega))
  have HR2 : Hid (w2.heap[w.heap.size]? = some (.cells z46 46 (0, 0))) := ((hb.block w.heap.size (by simp; omega)).trans (by repeat (first | (with_reducible exact HR1.out) | (with_reducible refine blk_far' (by simp) ?_))))
  have hz2 : w.heap.size + 1 < w2.heap.size := by have := hb.size; simp at this; omega
  have hy2 : w.heap.size < w2.heap.size := by omega
  have HB2 := Lib.hid hb'
  clear hb hb'
  cases mb
  · have hg : good l = false := HGO.out.trans HMB.out
    have hn : errn l = 40 := by have h1 := H1.out; unfold errn; rw [if_neg (by omega), if_neg (by omega), if_neg (by rw [hg]; simp)]
    have HG := Lib.hid hg
    have HN := Lib.hid hn
    clear hg hn
    go_wp2
    exact ret_pk46 rfl w.heap.size _ (.int .i64 40) rfl rfl (set9 _ _ _ _ _ _ _ _ _ HR2.out) (by kernel_rfl) rfl (gets_bad HG.out HN.out (by repeat (first | (with_reducible exact HB2.out) | (with_reducible refine Below.setCell ?_ (by simp) _))))
  · have hg : good l = true := HGO.out.trans HMB.out
    have hn : errn l = 0 := by have h1 := H1.out; unfold errn; rw [if_neg (by omega), if_neg (by omega), if_pos hg]
    have HG := Lib.hid hg
    have HN := Lib.hid hn
    clear hg hn
    go_wp2
    refine ret_pk46 rfl w.heap.size _ (.int .i64 0) rfl rfl (set9 _ _ _ _ _ _ _ _ _ HR2.out) (by kernel_rfl) rfl ?_
    exact gets_good HG.out HN.out HP.out L2.out rfl (R2.out _ (H.out.below (by repeat (first | (with_reducible exact HB2.out) | (with_reducible refine Below.setCell ?_ (by simp) _))))) (rd_nil _) (by repeat (first | (with_reducible exact HB2.out) | (with_reducible refine Below.setCell ?_ (by simp) _)))
set_option maxHeartbeats 1000000 in
set_option maxRecDepth 100000 in
theorem rget_3 (A : Option Addr) (c : Nat) (l : List Int) (w : World) (h : Rd w A c l) (h0 : l.length ≤ 1200) (h1 : 13 < l.length) (hk : l.getD 0 0 = 3) : Calls Try.prog 26 #[.slice A l.length c] w (Gets w l) := by
  have hc := h.c
  obtain ⟨ad, rfl, hlt, hx⟩ := h.at (by omega)
  have r1 := fun w' (hw : Rd w' (some ad) c l) => hw.mid 1 5 (by omega) (by omega) (by omega)
  have r2 := fun w' (hw : Rd w' (some ad) c l) => hw.mid 5 13 (by omega) (by omega) (by omega)
  have r3 := fun w' (hw : Rd w' (some ad) c l) => hw.from 13 (by omega) (by omega)
  obtain ⟨T, hT⟩ : ∃ x, le ((l.take 5).drop 1) = x := ⟨_, rfl⟩
  have bT := le4 h.b 1 5 rfl
  rw [hT] at bT
  obtain ⟨bT0, bT1⟩ := bT
  obtain ⟨C, hC⟩ : ∃ x, le ((l.take 13).drop 5) = x := ⟨_, rfl⟩
  have bC := le8 h.b 5 13 rfl
  rw [hC] at bC
  obtain ⟨bC0, bC1⟩ := bC
  have c0 := hx 0 (by omega)
  rw [hk, show ad.add 0 = ad from rfl] at c0
  have i0 : (l.length : Int) ≤ 1200 := by omega
  have i1 : ((l.length : Int) == 0) = false := by rw [beq_eq_false_iff_ne]; omega
  have i2 : (13 : Int) < l.length := by omega
  have hP : parse l = ⟨3, 0, T, 0, 0, 0, [], C, l.drop 13⟩ := by unfold parse; rw [if_neg (by omega), if_neg (by omega), hk]; rw [hT, hC]
  have hok : (⟨3, 0, T, 0, 0, 0, [], C, l.drop 13⟩ : Pk).ok := by
    refine ⟨?_, ?_, ?_, ?_, ?_, ?_, ?_⟩ <;> (try unfold I64) <;> dsimp only <;> omega
  have hgo : good l = mayB (parse l) := by unfold good; rw [decide_eq_true ⟨by omega, by omega, .inr (.inr ⟨.inl hk, h1⟩)⟩, Bool.true_and]
  have l1 : ((l.take 5).drop 1).length = 4 := by simp <;> omega
  have l2 : ((l.take 13).drop 5).length = 8 := by simp <;> omega
  have l3 : (l.drop 13).length = l.length - 13 := by simp <;> omega
  have k1 : ∀ w', Rd w' (some ad) c l → Calls Try.prog 40 #[.slice (some ⟨ad.block, ad.off + 1, none⟩) 4 (c - 1)] w' fun e w2 => e = .returned (.int .u64 T) ∧ Below w'.heap.size w' w2 := fun w' hw => by rw [← hT]; exact rcload w' (r1 w' hw) l1 (.inl rfl)
  have k2 : ∀ w', Rd w' (some ad) c l → Calls Try.prog 40 #[.slice (some ⟨ad.block, ad.off + 5, none⟩) 8 (c - 5)] w' fun e w2 => e = .returned (.int .u64 C) ∧ Below w'.heap.size w' w2 := fun w' hw => by rw [← hC]; exact rcload w' (r2 w' hw) l2 (.inr rfl)
  have kk : ∀ w', Rd w' (some ad) c l → Calls Try.prog 21 #[.agg #[.int .i64 3, .int .u32 0, .int .u32 T, .int .i64 0, .int .i64 0, .int .i64 0, .slice none 0 0, .int .u64 C, .slice (some ⟨ad.block, ad.off + 13, none⟩) (l.length - 13) (c - 13)]] w' fun e w2 => e = .returned (.bool (mayB (parse l))) ∧ Below w'.heap.size w' w2 := fun w' hw => by
    rw [hP]
    exact rmay' _ hok rfl l3 w' (rd_nil _) (r3 w' hw)
  have H := Lib.hid h
  have R3 := Lib.hid r3
  have L3 := Lib.hid l3
  have K1 := Lib.hid k1
  have K2 := Lib.hid k2
  have KK := Lib.hid kk
  have HP := Lib.hid hP
  have HGO := Lib.hid hgo
  clear h hk hP hok hgo kk hx r1 r2 r3 l1 l2 l3 k1 k2 hT hC
  obtain ⟨mb, hmb⟩ : ∃ b, mayB (parse l) = b := ⟨_, rfl⟩
  rw [hmb] at KK
  have HMB := Lib.hid hmb
  clear hmb
  have HR0 : Hid (((w.alloc (.cells #[.int .i64 0, .int .u32 0, .int .u32 0, .int .i64 0, .int .i64 0, .int .i64 0, .slice none 0 0, .int .u64 0, .slice none 0 0] 46)).alloc (.cells #[.int .i64 3, .int .u32 0, .int .u32 0, .int .i64 0, .int .i64 0, .int .i64 0, .slice none 0 0, .int .u64 0, .slice none 0 0] 46)).heap[w.heap.size]? = some (.cells z46 46 (0, 0))) := heap_alloc2_old w _ _
  go_enter Try.func26, Try.ntmps26
  go_wp2_with fail
  with_reducible refine (K1.out _ (H.out.below ?_)).mono ?_
  · (repeat (first | (with_reducible exact Below.refl _ _) | (with_reducible refine Below.setCell ?_ (by simp; try omega) _) | (with_reducible refine Below.alloc ?_ (by simp; try omega) _)))
  rintro e w1 ⟨rfl, hb⟩
  obtain ⟨hc1, hf1⟩ := bcell hb
  have hb' : Below w.heap.size w w1 := Below.trans (by repeat (first | (with_reducible exact Below.refl _ _) | (with_reducible refine Below.setCell ?_ (by simp; try omega) _) | (with_reducible refine Below.alloc ?_ (by simp; try omega) _))) (hb.mono (by simp; omega))
  have HR1 : Hid (w1.heap[w.heap.size]? = some (.cells z46 46 (0, 0))) := ((hb.block w.heap.size (by simp; omega)).trans (by repeat (first | (with_reducible exact HR0.out) | (with_reducible refine blk_far' (by simp) ?_))))
  have hz1 : w.heap.size + 1 < w1.heap.size := by have := hb.size; simp at this; omega
  have hy1 : w.heap.size < w1.heap.size := by omega
  have HB1 := Lib.hid hb'
  clear hb hb'
  go_wp2_with fail
  with_reducible refine (K2.out _ (H.out.below ?_)).mono ?_
  · (repeat (first | (with_reducible exact HB1.out) | (with_reducible refine Below.setCell ?_ (by simp; try omega) _) | (with_reducible refine Below.alloc ?_ (by simp; try omega) _)))
  rintro e w2 ⟨rfl, hb⟩
  obtain ⟨hc2, hf2⟩ := bcell hb
  have hb' : Below w.heap.size w w2 := Below.trans (by repeat (first | (with_reducible exact HB1.out) | (with_reducible refine Below.setCell ?_ (by simp; try omega) _) | (with_reducible refine Below.alloc ?_ (by simp; try omega) _))) (hb.mono (by simp; omega))
  have HR2 : Hid (w2.heap[w.heap.size]? = some (.cells z46 46 (0, 0))) := ((hb.block w.heap.size (by simp; omega)).trans (by repeat (first | (with_reducible exact HR1.out) | (with_reducible refine blk_far' (by simp) ?_))))
  have hz2 : w.heap.size + 1 < w2.heap.size := by have := hb.size; simp at this; omega
  have hy2 : w.heap.size < w2.heap.size := by omega
  have HB2 := Lib.hid hb'
  clear hb hb'
  go_wp2_with fail
  with_reducible refine (KK.out _ (H.out.below ?_)).mono ?_
  · (repeat (first | (with_reducible exact HB2.out) | (with_reducible refine Below.setCell ?_ (by simp; try omega) _) | (with_reducible refine Below.alloc ?_ (by simp; try omega) _)))
  rintro e w3 ⟨rfl, hb⟩
  obtain ⟨hc3, hf3⟩ := bcell hb
  have hb' : Below w.heap.size w w3 := Below.trans (by repeat (first | (with_reducible exact HB2.out) | (with_reducible refine Below.setCell ?_ (by simp; try omega) _) | (with_reducible refine Below.alloc ?_ (by simp; try omega) _))) (hb.mono (by simp; omega))
  have HR3 : Hid (w3.heap[w.heap.size]? = some (.cells z46 46 (0, 0))) := ((hb.block w.heap.size (by simp; omega)).trans (by repeat (first | (with_reducible exact HR2.out) | (with_reducible refine blk_far' (by simp) ?_))))
  have hz3 : w.heap.size + 1 < w3.heap.size := by have := hb.size; simp at this; omega
  have hy3 : w.heap.size < w3.heap.size := by omega
  have HB3 := Lib.hid hb'
  clear hb hb'
  cases mb
  · have hg : good l = false := HGO.out.trans HMB.out
    have hn : errn l = 40 := by unfold errn; rw [if_neg (by omega), if_neg (by omega), if_neg (by rw [hg]; simp)]
    have HG := Lib.hid hg
    have HN := Lib.hid hn
    clear hg hn
    go_wp2
    exact ret_pk46 rfl w.heap.size _ (.int .i64 40) rfl rfl (set9 _ _ _ _ _ _ _ _ _ HR3.out) (by kernel_rfl) rfl (gets_bad HG.out HN.out (by repeat (first | (with_reducible exact HB3.out) | (with_reducible refine Below.setCell ?_ (by simp) _))))
  · have hg : good l = true := HGO.out.trans HMB.out
    have hn : errn l = 0 := by unfold errn; rw [if_neg (by omega), if_neg (by omega), if_pos hg]
    have HG := Lib.hid hg
    have HN := Lib.hid hn
    clear hg hn
    go_wp2
    refine ret_pk46 rfl w.heap.size _ (.int .i64 0) rfl rfl (set9 _ _ _ _ _ _ _ _ _ HR3.out) (by kernel_rfl) rfl ?_
    exact gets_good HG.out HN.out HP.out rfl L3.out (rd_nil _) (R3.out _ (H.out.below (by repeat (first | (with_reducible exact HB3.out) | (with_reducible refine Below.setCell ?_ (by simp) _))))) (by repeat (first | (with_reducible exact HB3.out) | (with_reducible refine Below.setCell ?_ (by simp) _)))
set_option maxHeartbeats 1000000 in
set_option maxRecDepth 100000 in
theorem rget_4 (A : Option Addr) (c : Nat) (l : List Int) (w : World) (h : Rd w A c l) (h0 : l.length ≤ 1200) (h1 : 13 < l.length) (hk : l.getD 0 0 = 4) : Calls Try.prog 26 #[.slice A l.length c] w (Gets w l) := by
  have hc := h.c
  obtain ⟨ad, rfl, hlt, hx⟩ := h.at (by omega)
  have r1 := fun w' (hw : Rd w' (some ad) c l) => hw.mid 1 5 (by omega) (by omega) (by omega)
  have r2 := fun w' (hw : Rd w' (some ad) c l) => hw.mid 5 13 (by omega) (by omega) (by omega)
  have r3 := fun w' (hw : Rd w' (some ad) c l) => hw.from 13 (by omega) (by omega)
  obtain ⟨T, hT⟩ : ∃ x, le ((l.take 5).drop 1) = x := ⟨_, rfl⟩
  have bT := le4 h.b 1 5 rfl
  rw [hT] at bT
  obtain ⟨bT0, bT1⟩ := bT
  obtain ⟨C, hC⟩ : ∃ x, le ((l.take 13).drop 5) = x := ⟨_, rfl⟩
  have bC := le8 h.b 5 13 rfl
  rw [hC] at bC
  obtain ⟨bC0, bC1⟩ := bC
  have c0 := hx 0 (by omega)
  rw [hk, show ad.add 0 = ad from rfl] at c0
  have i0 : (l.length : Int) ≤ 1200 := by omega
  have i1 : ((l.length : Int) == 0) = false := by rw [beq_eq_false_iff_ne]; omega
  have i2 : (13 : Int) < l.length := by omega
  have hP : parse l = ⟨4, 0, T, 0, 0, 0, [], C, l.drop 13⟩ := by unfold parse; rw [if_neg (by omega), if_neg (by omega), hk]; rw [hT, hC]
  have hok : (⟨4, 0, T, 0, 0, 0, [], C, l.drop 13⟩ : Pk).ok := by
    refine ⟨?_, ?_, ?_, ?_, ?_, ?_, ?_⟩ <;> (try unfold I64) <;> dsimp only <;> omega
  have hgo : good l = mayB (parse l) := by unfold good; rw [decide_eq_true ⟨by omega, by omega, .inr (.inr ⟨.inr hk, h1⟩)⟩, Bool.true_and]
  have l1 : ((l.take 5).drop 1).length = 4 := by simp <;> omega
  have l2 : ((l.take 13).drop 5).length = 8 := by simp <;> omega
  have l3 : (l.drop 13).length = l.length - 13 := by simp <;> omega
  have k1 : ∀ w', Rd w' (some ad) c l → Calls Try.prog 40 #[.slice (some ⟨ad.block, ad.off + 1, none⟩) 4 (c - 1)] w' fun e w2 => e = .returned (.int .u64 T) ∧ Below w'.heap.size w' w2 := fun w' hw => by rw [← hT]; exact rcload w' (r1 w' hw) l1 (.inl rfl)
  have k2 : ∀ w', Rd w' (some ad) c l → Calls Try.prog 40 #[.slice (some ⟨ad.block, ad.off + 5, none⟩) 8 (c - 5)] w' fun e w2 => e = .returned (.int .u64 C) ∧ Below w'.heap.size w' w2 := fun w' hw => by rw [← hC]; exact rcload w' (r2 w' hw) l2 (.inr rfl)
  have kk : ∀ w', Rd w' (some ad) c l → Calls Try.prog 21 #[.agg #[.int .i64 4, .int .u32 0, .int .u32 T, .int .i64 0, .int .i64 0, .int .i64 0, .slice none 0 0, .int .u64 C, .slice (some ⟨ad.block, ad.off + 13, none⟩) (l.length - 13) (c - 13)]] w' fun e w2 => e = .returned (.bool (mayB (parse l))) ∧ Below w'.heap.size w' w2 := fun w' hw => by
    rw [hP]
    exact rmay' _ hok rfl l3 w' (rd_nil _) (r3 w' hw)
  have H := Lib.hid h
  have R3 := Lib.hid r3
  have L3 := Lib.hid l3
  have K1 := Lib.hid k1
  have K2 := Lib.hid k2
  have KK := Lib.hid kk
  have HP := Lib.hid hP
  have HGO := Lib.hid hgo
  clear h hk hP hok hgo kk hx r1 r2 r3 l1 l2 l3 k1 k2 hT hC
  obtain ⟨mb, hmb⟩ : ∃ b, mayB (parse l) = b := ⟨_, rfl⟩
  rw [hmb] at KK
  have HMB := Lib.hid hmb
  clear hmb
  have HR0 : Hid (((w.alloc (.cells #[.int .i64 0, .int .u32 0, .int .u32 0, .int .i64 0, .int .i64 0, .int .i64 0, .slice none 0 0, .int .u64 0, .slice none 0 0] 46)).alloc (.cells #[.int .i64 4, .int .u32 0, .int .u32 0, .int .i64 0, .int .i64 0, .int .i64 0, .slice none 0 0, .int .u64 0, .slice none 0 0] 46)).heap[w.heap.size]? = some (.cells z46 46 (0, 0))) := heap_alloc2_old w _ _
  go_enter Try.func26, Try.ntmps26
  go_wp2_with fail
  with_reducible refine (K1.out _ (H.out.below ?_)).mono ?_
  · (repeat (first | (with_reducible exact Below.refl _ _) | (with_reducible refine Below.setCell ?_ (by simp; try omega) _) | (with_reducible refine Below.alloc ?_ (by simp; try omega) _)))
  rintro e w1 ⟨rfl, hb⟩
  obtain ⟨hc1, hf1⟩ := bcell hb
  have hb' : Below w.heap.size w w1 := Below.trans (by repeat (first | (with_reducible exact Below.refl _ _) | (with_reducible refine Below.setCell ?_ (by simp; try omega) _) | (with_reducible refine Below.alloc ?_ (by simp; try omega) _))) (hb.mono (by simp; omega))
  have HR1 : Hid (w1.heap[w.heap.size]? = some (.cells z46 46 (0, 0))) := ((hb.block w.heap.size (by simp; omega)).trans (by repeat (first | (with_reducible exact HR0.out) | (with_reducible refine blk_far' (by simp) ?_))))
  have hz1 : w.heap.size + 1 < w1.heap.size := by have := hb.size; simp at this; omega
  have hy1 : w.heap.size < w1.heap.size := by omega
  have HB1 := Lib.hid hb'
  clear hb hb'
  go_wp2_with fail
  with_reducible refine (K2.out _ (H.out.below ?_)).mono ?_
  · (repeat (first | (with_reducible exact HB1.out) | (with_reducible refine Below.setCell ?_ (by simp; try omega) _) | (with_reducible refine Below.alloc ?_ (by simp; try omega) _)))
  rintro e w2 ⟨rfl, hb⟩
  obtain ⟨hc2, hf2⟩ := bcell hb
  have hb' : Below w.heap.size w w2 := Below.trans (by repeat (first | (with_reducible exact HB1.out) | (with_reducible refine Below.setCell ?_ (by simp; try omega) _) | (with_reducible refine Below.alloc ?_ (by simp; try omega) _))) (hb.mono (by simp; omega))
  have HR2 : Hid (w2.heap[w.heap.size]? = some (.cells z46 46 (0, 0))) := ((hb.block w.heap.size (by simp; omega)).trans (by repeat (first | (with_reducible exact HR1.out) | (with_reducible refine blk_far' (by simp) ?_))))
  have hz2 : w.heap.size + 1 < w2.heap.size := by have := hb.size; simp at this; omega
  have hy2 : w.heap.size < w2.heap.size := by omega
  have HB2 := Lib.hid hb'
  clear hb hb'
  go_wp2_with fail
  with_reducible refine (KK.out _ (H.out.below ?_)).mono ?_
  · (repeat (first | (with_reducible exact HB2.out) | (with_reducible refine Below.setCell ?_ (by simp; try omega) _) | (with_reducible refine Below.alloc ?_ (by simp; try omega) _)))
  rintro e w3 ⟨rfl, hb⟩
  obtain ⟨hc3, hf3⟩ := bcell hb
  have hb' : Below w.heap.size w w3 := Below.trans (by repeat (first | (with_reducible exact HB2.out) | (with_reducible refine Below.setCell ?_ (by simp; try omega) _) | (with_reducible refine Below.alloc ?_ (by simp; try omega) _))) (hb.mono (by simp; omega))
  have HR3 : Hid (w3.heap[w.heap.size]? = some (.cells z46 46 (0, 0))) := ((hb.block w.heap.size (by simp; omega)).trans (by repeat (first | (with_reducible exact HR2.out) | (with_reducible refine blk_far' (by simp) ?_))))
  have hz3 : w.heap.size + 1 < w3.heap.size := by have := hb.size; simp at this; omega
  have hy3 : w.heap.size < w3.heap.size := by omega
  have HB3 := Lib.hid hb'
  clear hb hb'
  cases mb
  · have hg : good l = false := HGO.out.trans HMB.out
    have hn : errn l = 40 := by unfold errn; rw [if_neg (by omega), if_neg (by omega), if_neg (by rw [hg]; simp)]
    have HG := Lib.hid hg
    have HN := Lib.hid hn
    clear hg hn
    go_wp2
    exact ret_pk46 rfl w.heap.size _ (.int .i64 40) rfl rfl (set9 _ _ _ _ _ _ _ _ _ HR3.out) (by kernel_rfl) rfl (gets_bad HG.out HN.out (by repeat (first | (with_reducible exact HB3.out) | (with_reducible refine Below.setCell ?_ (by simp) _))))
  · have hg : good l = true := HGO.out.trans HMB.out
    have hn : errn l = 0 := by unfold errn; rw [if_neg (by omega), if_neg (by omega), if_pos hg]
    have HG := Lib.hid hg
    have HN := Lib.hid hn
    clear hg hn
    go_wp2
    refine ret_pk46 rfl w.heap.size _ (.int .i64 0) rfl rfl (set9 _ _ _ _ _ _ _ _ _ HR3.out) (by kernel_rfl) rfl ?_
    exact gets_good HG.out HN.out HP.out rfl L3.out (rd_nil _) (R3.out _ (H.out.below (by repeat (first | (with_reducible exact HB3.out) | (with_reducible refine Below.setCell ?_ (by simp) _))))) (by repeat (first | (with_reducible exact HB3.out) | (with_reducible refine Below.setCell ?_ (by simp) _)))
set_option maxHeartbeats 1000000 in
theorem rget_bad (A : Option Addr) (c : Nat) (l : List Int) (w : World) (h : Rd w A c l) (h0 : l.length ≤ 1200) (h1 : l.length ≠ 0) (hF : ¬ Form l) : Calls Try.prog 26 #[.slice A l.length c] w (Gets w l) := by
  have hg : good l = false := by unfold good; rw [decide_eq_false (fun h => hF h.2.2)]; rfl
  have hn : errn l = 40 := by unfold errn; rw [if_neg (by omega), if_neg (by omega), if_neg (by rw [hg]; simp)]
  have HG := Lib.hid hg
  have HN := Lib.hid hn
  obtain ⟨ad, rfl, hlt, hx⟩ := h.at (by omega)
  have c0 := hx 0 (by omega)
  rw [show ad.add 0 = ad from rfl] at c0
  have bk := byte_i h.b 0
  unfold Form at hF
  obtain ⟨k, hk⟩ : ∃ k, l.getD 0 0 = k := ⟨_, rfl⟩
  rw [hk] at c0 hF bk
  obtain ⟨bk0, bk1⟩ := bk
  have hc := h.c
  have i0 : (l.length : Int) ≤ 1200 := by omega
  have i1 : ((l.length : Int) == 0) = false := by rw [beq_eq_false_iff_ne]; omega
  clear hx hg hn hk h
  by_cases k1 : k = 1
  · subst k1
    have i2 : (l.length : Int) ≤ 28 := by omega
    clear hF
    go_enter Try.func26, Try.ntmps26
    go_wp2
    exact bodyPost_ret (v := .tuple #[.agg #[.int .i64 0, .int .u32 0, .int .u32 0, .int .i64 0, .int .i64 0, .int .i64 0, .slice none 0 0, .int .u64 0, .slice none 0 0], .int .i64 40]) (by simp [results, Try.results26, go_sem]) rfl (gets_bad HG.out HN.out (by repeat (first | (with_reducible exact Below.refl _ _) | (with_reducible refine Below.setCell ?_ (by simp) _) | (with_reducible refine Below.alloc ?_ (by simp; try omega) _))))
  by_cases k2 : k = 2
  · subst k2
    have i2 : ((l.length : Int) == 21) = false := by rw [beq_eq_false_iff_ne]; omega
    clear hF k1
    go_enter Try.func26, Try.ntmps26
    go_wp2
    exact bodyPost_ret (v := .tuple #[.agg #[.int .i64 0, .int .u32 0, .int .u32 0, .int .i64 0, .int .i64 0, .int .i64 0, .slice none 0 0, .int .u64 0, .slice none 0 0], .int .i64 40]) (by simp [results, Try.results26, go_sem]) rfl (gets_bad HG.out HN.out (by repeat (first | (with_reducible exact Below.refl _ _) | (with_reducible refine Below.setCell ?_ (by simp) _) | (with_reducible refine Below.alloc ?_ (by simp; try omega) _))))
  by_cases k3 : k = 3
  · subst k3
    have i2 : (l.length : Int) ≤ 13 := by omega
    clear hF k1 k2
    go_enter Try.func26, Try.ntmps26
    go_wp2
    exact bodyPost_ret (v := .tuple #[.agg #[.int .i64 0, .int .u32 0, .int .u32 0, .int .i64 0, .int .i64 0, .int .i64 0, .slice none 0 0, .int .u64 0, .slice none 0 0], .int .i64 40]) (by simp [results, Try.results26, go_sem]) rfl (gets_bad HG.out HN.out (by repeat (first | (with_reducible exact Below.refl _ _) | (with_reducible refine Below.setCell ?_ (by simp) _) | (with_reducible refine Below.alloc ?_ (by simp; try omega) _))))
  by_cases k4 : k = 4
  · subst k4
    have i2 : (l.length : Int) ≤ 13 := by omega
    clear hF k1 k2 k3
    go_enter Try.func26, Try.ntmps26
    go_wp2
    exact bodyPost_ret (v := .tuple #[.agg #[.int .i64 0, .int .u32 0, .int .u32 0, .int .i64 0, .int .i64 0, .int .i64 0, .slice none 0 0, .int .u64 0, .slice none 0 0], .int .i64 40]) (by simp [results, Try.results26, go_sem]) rfl (gets_bad HG.out HN.out (by repeat (first | (with_reducible exact Below.refl _ _) | (with_reducible refine Below.setCell ?_ (by simp) _) | (with_reducible refine Below.alloc ?_ (by simp; try omega) _))))
  have j1 : (k == 1) = false := by rw [beq_eq_false_iff_ne]; exact k1
  have j2 : (k == 2) = false := by rw [beq_eq_false_iff_ne]; exact k2
  have j3 : (k == 3) = false := by rw [beq_eq_false_iff_ne]; exact k3
  have j4 : (k == 4) = false := by rw [beq_eq_false_iff_ne]; exact k4
  clear hF k1 k2 k3 k4
  go_enter Try.func26, Try.ntmps26
  go_wp2
  exact bodyPost_ret (v := .tuple #[.agg #[.int .i64 0, .int .u32 0, .int .u32 0, .int .i64 0, .int .i64 0, .int .i64 0, .slice none 0 0, .int .u64 0, .slice none 0 0], .int .i64 40]) (by simp [results, Try.results26, go_sem]) rfl (gets_bad HG.out HN.out (by repeat (first | (with_reducible exact Below.refl _ _) | (with_reducible refine Below.setCell ?_ (by simp) _) | (with_reducible refine Below.alloc ?_ (by simp; try omega) _))))
set_option maxHeartbeats 1000000 in
theorem rget_none (A : Option Addr) (c : Nat) (l : List Int) (w : World) (h : Rd w A c l) (h1 : l.length = 0) : Calls Try.prog 26 #[.slice A l.length c] w (Gets w l) := by
  have hg : good l = false := by unfold good; rw [decide_eq_false (by omega)]; rfl
  have hn : errn l = 13 := by unfold errn; rw [if_neg (by omega), if_pos h1]
  have HG := Lib.hid hg
  have HN := Lib.hid hn
  have i1 : ((l.length : Int) == 0) = true := by rw [beq_iff_eq]; omega
  have i0 : (l.length : Int) ≤ 1200 := by omega
  clear hg hn h1
  go_enter Try.func26, Try.ntmps26
  go_wp2
  exact bodyPost_ret (v := .tuple #[.agg #[.int .i64 0, .int .u32 0, .int .u32 0, .int .i64 0, .int .i64 0, .int .i64 0, .slice none 0 0, .int .u64 0, .slice none 0 0], .int .i64 13]) (by simp [results, Try.results26, go_sem]) rfl (gets_bad HG.out HN.out (by repeat (first | (with_reducible exact Below.refl _ _) | (with_reducible refine Below.setCell ?_ (by simp) _) | (with_reducible refine Below.alloc ?_ (by simp; try omega) _))))
theorem rget_any (A : Option Addr) (c : Nat) (l : List Int) (w : World) (h : Rd w A c l) (hl : l.length ≤ 100000) : Calls Try.prog 26 #[.slice A l.length c] w (Gets w l) := by
  by_cases h1 : 1200 < l.length
  · exact rget_long A c l w h hl h1
  by_cases h2 : l.length = 0
  · exact rget_none A c l w h h2
  by_cases hF : Form l
  · rcases hF with ⟨k, n⟩ | ⟨k, n⟩ | ⟨k | k, n⟩
    · exact rget_1 A c l w h (by omega) n k
    · exact rget_2 A c l w h (by omega) n k
    · exact rget_3 A c l w h (by omega) n k
    · exact rget_4 A c l w h (by omega) n k
  · exact rget_bad A c l w h (by omega) h2 hF
end Go.Proofs.Ytkcjgkfgjbhfnaa
