import Derived.Test.YtkcjgkfgjbhfnaaWirM
set_option linter.unusedVariables false
set_option linter.unusedSimpArgs false
namespace Go.Proofs.Ytkcjgkfgjbhfnaa
open Go.RowKit Go.Proofs.YtkcjgkfgjbhfnaaW.PrintWords Go.Proofs.YtkcjgkfgjbhfnaaW.PrintLast Go.Proofs.YtkcjgkfgjbhfnaaW.PrintMore
attribute [local go_sem ↓] Go.wp_at_zero Go.wp_at_succ
set_option maxHeartbeats 8000000 in
set_option maxRecDepth 100000 in
theorem get_2 (A : Option Addr) (c : Nat) (l : List Int) (w : World) (h : Rd w A c l) (h0 : l.length ≤ 1200) (h1 : 21 ≤ l.length) (hk : l.getD 0 0 = 2) : Calls Try.prog 25 #[.slice A l.length c] w (GetsO w l) := by
  have hc := h.c
  obtain ⟨ad, rfl, hlt, hx⟩ := h.at (by omega)
  have c0 := hx 0 (by omega)
  rw [hk, show ad.add 0 = ad from rfl] at c0
  have i0 : (l.length : Int) ≤ 1200 := by omega
  have i1 : ((l.length : Int) == 0) = false := by rw [beq_eq_false_iff_ne]; omega
  have i2 : (21 : Int) ≤ l.length := by omega
  have hlt1 : ad.block < w.heap.size + 1 := by omega
  have hlt2 : ad.block < w.heap.size + 1 + 1 := by omega
  have hlt3 : ad.block < w.heap.size + 1 + 1 + 1 := by omega
  obtain ⟨T, hT⟩ : ∃ x, le ((l.take 5).drop 1) = x := ⟨_, rfl⟩
  have bT := le4 h.b 1 5 rfl
  rw [hT] at bT
  obtain ⟨bT0, bT1⟩ := bT
  have hP : parse l = ⟨2, 0, T, 0, 0, 0, l.drop 5, 0, []⟩ := by unfold parse; rw [if_neg (by omega), if_pos hk]; rw [hT]
  have hok : (⟨2, 0, T, 0, 0, 0, l.drop 5, 0, []⟩ : Pk).ok := by
    refine ⟨?_, ?_, ?_, ?_, ?_, ?_, ?_⟩ <;> (try unfold I64) <;> dsimp only <;> omega
  have hgo := good_2 l h0 h1 hk
  have H := Lib.hid h
  have K1 : Hid (∀ P w', GW w ad l.length c P w' → Calls Try.prog 37 #[.int .i64 1, .pointer (some ⟨w.heap.size, 0, none⟩)] w' fun e w2 => e = .returned (.int .u32 T) ∧ Below w'.heap.size w' w2) := fun P w' g => number_1 ad c l _ w' (h.below g.below) g.box (by omega) T hT
  have KA : Hid (∀ P w', GW w ad l.length c P w' → Calls Try.prog 39 #[.slice (some ⟨ad.block, ad.off + 5, none⟩) (l.length - 5) (c - 5)] w' fun e w2 => ∃ A' k', e = .returned (.slice A' (l.length - 5) k') ∧ OwnA w2 (w.heap.size + 1 + 1 + 1 + 1) (.slice A' (l.length - 5) k') (l.drop 5) ∧ Below w'.heap.size w' w2) := fun P w' g => clone_at h (fun w' hw => hw.from 5 (by omega) (by omega)) (by simp) (by omega) (by simp) g
  have bmac : Bytes (l.drop 5) := fun x hx => h.b x (List.mem_of_mem_drop hx)
  obtain ⟨mb, hmb⟩ : ∃ b, mayB (parse l) = b := ⟨_, rfl⟩
  have KM : Hid (∀ Ax kx w', OwnA w' (w.heap.size + 1 + 1 + 1 + 1) (.slice Ax (l.length - 5) kx) (l.drop 5) → Calls Try.prog 30 #[.agg #[.int .i64 2, .int .u32 0, .int .u32 T, .int .i64 0, .int .i64 0, .int .i64 0, .slice Ax (l.length - 5) kx, .int .u64 0, .slice none 0 0]] w' fun e w2 => e = .returned (.bool mb) ∧ Below w'.heap.size w' w2) := fun Ax kx w' ha => by rw [← hmb, hP]; exact may' _ hok w' bmac (fun x hx => by cases hx) ha (OwnA.nil w' 0)
  have L3 : Hid ((l.drop 5).length = l.length - 5) := by show _ = _; simp
  have HP := Lib.hid hP
  have HGO := Lib.hid hgo
  have HMB := Lib.hid hmb
  clear hx h hT hP hok hgo hmb bmac hk
  go_enter Try.func25, Try.ntmps25
  go_wp2_with fail
  go_quiet ((fail))
  go_upto_region 10 with fail
  go_cut [1, 2, 3, 5, 6, 38] (fun s1 s2 s3 s5 s6 s38 wx => s1 = .pointer (some ⟨w.heap.size, 0, none⟩) ∧ s2 = .pointer (some ⟨w.heap.size + 1, 0, none⟩) ∧ s3 = .int .i64 0 ∧ s5 = .pointer (some ⟨w.heap.size + 1 + 1 + 1, 0, none⟩) ∧ s6 = .func (.func 37) #[] #[.pointer (some ⟨w.heap.size, 0, none⟩)] ∧ s38 = .int .i64 2 ∧ GW w ad l.length c (pcs 2 0 0 0 0 0 (.slice none 0 0) 0 (.slice none 0 0)) wx)
  case first =>
    go_wp2_with fail
    go_meet
    exact ⟨rfl, rfl, rfl, rfl, rfl, rfl, GW.start w ad l.length c 2 _⟩
  case rest =>
    obtain ⟨rfl, rfl, rfl, rfl, rfl, rfl, hG⟩ := hcut
    have HG := Lib.hid hG
    clear hG
    go_upto_block 1 with fail
    go_cut [2, 3, 5] (fun s2 s3 s5 wx => s2 = .pointer (some ⟨w.heap.size + 1, 0, none⟩) ∧ s3 = .int .i64 0 ∧ s5 = .pointer (some ⟨w.heap.size + 1 + 1 + 1, 0, none⟩) ∧ ∃ Ax kx, GW w ad l.length c (pcs 2 0 T 0 0 0 (.slice Ax (l.length - 5) kx) 0 (.slice none 0 0)) wx ∧ OwnA wx (w.heap.size + 1 + 1 + 1 + 1) (.slice Ax (l.length - 5) kx) (l.drop 5))
    case first =>
      have j9 : (5 : Int) ≤ (l.length : Int) := by omega
      have n9 : 5 ≤ l.length := by omega
      have j8 : (5 : Int) ≤ (c : Int) := by omega
      have n6 : ¬ c = 5 := by omega
      have qb := HG.out.cb
      have p2 := HG.out.cp 2 (v := .int .u32 0) rfl
      have z2 := blk_frozen HG.out.pk 2
      have p6 := HG.out.cp 6 (v := .slice none 0 0) rfl
      have z6 := blk_frozen HG.out.pk 6
      go_wp2_with fail
      go_region_held3 (fun w' => w'.cell? ⟨w.heap.size, 0, none⟩ = some (.slice (some ad) l.length c)) (first | assumption | (refine keep0 ?_ ?_; ((try dsimp only); omega); assumption) | (refine keep1 ?_ ?_; ((try dsimp only); omega); assumption) | go_keep)
        (first
          | (go_at_call 37; (with_reducible refine (K1.out _ _ HG.out.drew).mono ?_); rintro e w1 ⟨rfl, hb⟩; have HGA := Lib.hid (GW.call HG.out.drew hb); have qbA := HGA.out.cb; have p2A := HGA.out.cp 2 (v := .int .u32 0) rfl; have z2A := blk_frozen HGA.out.pk 2; have p6A := HGA.out.cp 6 (v := .slice none 0 0) rfl; have z6A := blk_frozen HGA.out.pk 6; clear hb)
          | (go_at_call 39; (with_reducible refine (KA.out _ _ HGA.out).mono ?_); rintro e w2 ⟨Ax, kx, rfl, hO, hb⟩; have HGB := Lib.hid (GW.call HGA.out hb); have HOA := Lib.hid hO; have qbB := HGB.out.cb; have p2B := HGB.out.cp 2 (v := .int .u32 0) rfl; have z2B := blk_frozen HGB.out.pk 2; have p6B := HGB.out.cp 6 (v := .slice none 0 0) rfl; have z6B := blk_frozen HGB.out.pk 6; clear hO hb))
      all_goals go_wp2_with fail
      all_goals go_meet
      all_goals exact ⟨rfl, rfl, rfl, Ax, kx, (HGB.out.set 2 _).set 6 _, (HOA.out.set (p := ⟨w.heap.size + 1 + 1 + 1, 2, none⟩) (by dsimp only; omega) _).set (p := ⟨w.heap.size + 1 + 1 + 1, 6, none⟩) (by dsimp only; omega) _⟩
    case rest =>
      clear HG K1 KA
      obtain ⟨rfl, rfl, rfl, Ax, kx,  hG, hHOA⟩ := hcut
      have HG := Lib.hid hG
      have HOA := Lib.hid hHOA
      have p0 := hG.cp 0 (v := .int .i64 2) rfl
      have p1 := hG.cp 1 (v := .int .u32 0) rfl
      have p2 := hG.cp 2 (v := .int .u32 T) rfl
      have p3 := hG.cp 3 (v := .int .i64 0) rfl
      have p4 := hG.cp 4 (v := .int .i64 0) rfl
      have p5 := hG.cp 5 (v := .int .i64 0) rfl
      have p6 := hG.cp 6 (v := .slice Ax (l.length - 5) kx) rfl
      have p7 := hG.cp 7 (v := .int .u64 0) rfl
      have p8 := hG.cp 8 (v := .slice none 0 0) rfl
      clear hG hHOA
      go_wp2_with fail
      with_reducible refine (KM.out _ _ _ HOA.out).mono ?_
      rintro e w3 ⟨rfl, hb⟩
      have HG3 := Lib.hid (HG.out.call hb)
      have HOA3 := Lib.hid (OwnA.below HOA.out hb)
      clear hb p0 p1 p2 p3 p4 p5 p6 p7 p8
      have p0 := HG3.out.cp 0 (v := .int .i64 2) rfl
      have p1 := HG3.out.cp 1 (v := .int .u32 0) rfl
      have p2 := HG3.out.cp 2 (v := .int .u32 T) rfl
      have p3 := HG3.out.cp 3 (v := .int .i64 0) rfl
      have p4 := HG3.out.cp 4 (v := .int .i64 0) rfl
      have p5 := HG3.out.cp 5 (v := .int .i64 0) rfl
      have p6 := HG3.out.cp 6 (v := .slice Ax (l.length - 5) kx) rfl
      have p7 := HG3.out.cp 7 (v := .int .u64 0) rfl
      have p8 := HG3.out.cp 8 (v := .slice none 0 0) rfl
      have r0 := HG3.out.cr 0 (v := .int .i64 0) rfl
      have r1 := HG3.out.cr 1 (v := .int .u32 0) rfl
      have r2 := HG3.out.cr 2 (v := .int .u32 0) rfl
      have r3 := HG3.out.cr 3 (v := .int .i64 0) rfl
      have r4 := HG3.out.cr 4 (v := .int .i64 0) rfl
      have r5 := HG3.out.cr 5 (v := .int .i64 0) rfl
      have r6 := HG3.out.cr 6 (v := .slice none 0 0) rfl
      have r7 := HG3.out.cr 7 (v := .int .u64 0) rfl
      have r8 := HG3.out.cr 8 (v := .slice none 0 0) rfl
      have f0 := blk_frozen HG3.out.res 0
      have f1 := blk_frozen HG3.out.res 1
      have f2 := blk_frozen HG3.out.res 2
      have f3 := blk_frozen HG3.out.res 3
      have f4 := blk_frozen HG3.out.res 4
      have f5 := blk_frozen HG3.out.res 5
      have f6 := blk_frozen HG3.out.res 6
      have f7 := blk_frozen HG3.out.res 7
      have f8 := blk_frozen HG3.out.res 8
      cases mb
      · have hg : good l = false := HGO.out.trans HMB.out
        have hn : errn l = 40 := by unfold errn; rw [if_neg (by omega), if_neg (by omega), if_neg (by rw [hg]; simp)]
        have HGF := Lib.hid hg
        have HN := Lib.hid hn
        clear hg hn
        go_wp2
        exact ret_pk45 rfl (w.heap.size + 1) _ (.int .i64 40) rfl rfl (set9 _ _ _ _ _ _ _ _ _ HG3.out.res) (by kernel_rfl) rfl (getsO_bad HGF.out HN.out (by repeat (first | (with_reducible exact HG3.out.below) | (with_reducible refine Below.setCell ?_ (by simp) _))))
      · have hg : good l = true := HGO.out.trans HMB.out
        have hn : errn l = 0 := by unfold errn; rw [if_neg (by omega), if_neg (by omega), if_pos hg]
        have HGF := Lib.hid hg
        have HN := Lib.hid hn
        clear hg hn
        go_wp2
        refine ret_pk45 rfl (w.heap.size + 1) _ (.int .i64 0) rfl rfl (set9 _ _ _ _ _ _ _ _ _ HG3.out.res) (by kernel_rfl) rfl ?_
        exact getsO_good HGF.out HN.out HP.out L3.out rfl (OwnA.lower (base := w.heap.size + 1 + 1 + 1 + 1) (by repeat (first | (with_reducible exact HOA3.out) | (with_reducible refine OwnA.set ?_ (by dsimp only; omega) _))) (by omega)) (OwnA.nil _ _) (by repeat (first | (with_reducible exact HG3.out.below) | (with_reducible refine Below.setCell ?_ (by simp) _)))
set_option maxHeartbeats 8000000 in
set_option maxRecDepth 100000 in
theorem get_3 (A : Option Addr) (c : Nat) (l : List Int) (w : World) (h : Rd w A c l) (h0 : l.length ≤ 1200) (h1 : 13 ≤ l.length) (hk : l.getD 0 0 = 3) : Calls Try.prog 25 #[.slice A l.length c] w (GetsO w l) := by
  have hc := h.c
  obtain ⟨ad, rfl, hlt, hx⟩ := h.at (by omega)
  have c0 := hx 0 (by omega)
  rw [hk, show ad.add 0 = ad from rfl] at c0
  have i0 : (l.length : Int) ≤ 1200 := by omega
  have i1 : ((l.length : Int) == 0) = false := by rw [beq_eq_false_iff_ne]; omega
  have i2 : (13 : Int) ≤ l.length := by omega
  have hlt1 : ad.block < w.heap.size + 1 := by omega
  have hlt2 : ad.block < w.heap.size + 1 + 1 := by omega
  have hlt3 : ad.block < w.heap.size + 1 + 1 + 1 := by omega
  obtain ⟨T, hT⟩ : ∃ x, le ((l.take 5).drop 1) = x := ⟨_, rfl⟩
  have bT := le4 h.b 1 5 rfl
  rw [hT] at bT
  obtain ⟨bT0, bT1⟩ := bT
  obtain ⟨C, hC⟩ : ∃ x, le ((l.take 13).drop 5) = x := ⟨_, rfl⟩
  have bC := le8 h.b 5 13 rfl
  rw [hC] at bC
  obtain ⟨bC0, bC1⟩ := bC
  have hP : parse l = ⟨3, 0, T, 0, 0, 0, [], C, l.drop 13⟩ := by unfold parse; rw [if_neg (by omega), if_neg (by omega), hk]; rw [hT, hC]
  have hok : (⟨3, 0, T, 0, 0, 0, [], C, l.drop 13⟩ : Pk).ok := by
    refine ⟨?_, ?_, ?_, ?_, ?_, ?_, ?_⟩ <;> (try unfold I64) <;> dsimp only <;> omega
  have hgo := good_34 l h0 h1 (.inl hk)
  have H := Lib.hid h
  have K1 : Hid (∀ P w', GW w ad l.length c P w' → Calls Try.prog 37 #[.int .i64 1, .pointer (some ⟨w.heap.size, 0, none⟩)] w' fun e w2 => e = .returned (.int .u32 T) ∧ Below w'.heap.size w' w2) := fun P w' g => number_1 ad c l _ w' (h.below g.below) g.box (by omega) T hT
  have KL : Hid (∀ k P w', k = c - 5 → GW w ad l.length c P w' → Calls Try.prog 38 #[.slice (some ⟨ad.block, ad.off + 5, none⟩) 8 k] w' fun e w2 => e = .returned (.int .u64 C) ∧ Below w'.heap.size w' w2) := fun k P w' hk g => by subst hk; rw [← hC]; exact cload w' ((h.below g.below).mid 5 13 (by omega) (by omega) (by omega)) (by simp; omega) (.inr rfl)
  have KB : Hid (¬ c = 13 → ∀ P w', GW w ad l.length c P w' → Calls Try.prog 39 #[.slice (some ⟨ad.block, ad.off + 13, none⟩) (l.length - 13) (c - 13)] w' fun e w2 => ∃ A' k', e = .returned (.slice A' (l.length - 13) k') ∧ OwnA w2 (w.heap.size + 1 + 1 + 1 + 1) (.slice A' (l.length - 13) k') (l.drop 13) ∧ Below w'.heap.size w' w2) := fun hne P w' g => clone_at h (fun w' hw => hw.from 13 (by omega) (by omega)) (by simp) (by omega) (by simp) g
  have KC : Hid (c = 13 → ∀ P w', GW w ad l.length c P w' → Calls Try.prog 39 #[.slice (some ad) 0 0] w' fun e w2 => ∃ A' k', e = .returned (.slice A' 0 k') ∧ OwnA w2 (w.heap.size + 1 + 1 + 1 + 1) (.slice A' 0 k') (l.drop 13) ∧ Below w'.heap.size w' w2) := fun he P w' g => clone_at h (fun w' hw => by rw [show l.drop 13 = [] from List.drop_eq_nil_of_le (by omega)]; exact Rd.empty) (by simp; omega) (by omega) (by simp) g
  have bbod : Bytes (l.drop 13) := fun x hx => h.b x (List.mem_of_mem_drop hx)
  obtain ⟨mb, hmb⟩ : ∃ b, mayB (parse l) = b := ⟨_, rfl⟩
  have KM : Hid (∀ Ay ky w', OwnA w' (w.heap.size + 1 + 1 + 1 + 1) (.slice Ay (l.length - 13) ky) (l.drop 13) → Calls Try.prog 30 #[.agg #[.int .i64 3, .int .u32 0, .int .u32 T, .int .i64 0, .int .i64 0, .int .i64 0, .slice none 0 0, .int .u64 C, .slice Ay (l.length - 13) ky]] w' fun e w2 => e = .returned (.bool mb) ∧ Below w'.heap.size w' w2) := fun Ay ky w' ha => by rw [← hmb, hP]; exact may' _ hok w' (fun x hx => by cases hx) bbod (OwnA.nil w' 0) ha
  have L4 : Hid ((l.drop 13).length = l.length - 13) := by show _ = _; simp
  have HP := Lib.hid hP
  have HGO := Lib.hid hgo
  have HMB := Lib.hid hmb
  clear hx h hT hC hP hok hgo hmb bbod hk
  go_enter Try.func25, Try.ntmps25
  go_wp2_with fail
  go_quiet ((fail))
  go_upto_region 10 with fail
  go_cut [1, 2, 3, 5, 6, 38] (fun s1 s2 s3 s5 s6 s38 wx => s1 = .pointer (some ⟨w.heap.size, 0, none⟩) ∧ s2 = .pointer (some ⟨w.heap.size + 1, 0, none⟩) ∧ s3 = .int .i64 0 ∧ s5 = .pointer (some ⟨w.heap.size + 1 + 1 + 1, 0, none⟩) ∧ s6 = .func (.func 37) #[] #[.pointer (some ⟨w.heap.size, 0, none⟩)] ∧ s38 = .int .i64 3 ∧ GW w ad l.length c (pcs 3 0 0 0 0 0 (.slice none 0 0) 0 (.slice none 0 0)) wx)
  case first =>
    go_wp2_with fail
    go_meet
    exact ⟨rfl, rfl, rfl, rfl, rfl, rfl, GW.start w ad l.length c 3 _⟩
  case rest =>
    obtain ⟨rfl, rfl, rfl, rfl, rfl, rfl, hG⟩ := hcut
    have HG := Lib.hid hG
    clear hG
    go_upto_block 1 with fail
    go_cut [2, 3, 5] (fun s2 s3 s5 wx => s2 = .pointer (some ⟨w.heap.size + 1, 0, none⟩) ∧ s3 = .int .i64 0 ∧ s5 = .pointer (some ⟨w.heap.size + 1 + 1 + 1, 0, none⟩) ∧ ∃ Ay ky, GW w ad l.length c (pcs 3 0 T 0 0 0 (.slice none 0 0) C (.slice Ay (l.length - 13) ky)) wx ∧ OwnA wx (w.heap.size + 1 + 1 + 1 + 1) (.slice Ay (l.length - 13) ky) (l.drop 13))
    case first =>
      have j9 : (13 : Int) ≤ (l.length : Int) := by omega
      have n9 : 13 ≤ l.length := by omega
      have j8 : (13 : Int) ≤ (c : Int) := by omega
      have n6 : ¬ c = 5 := by omega
      have qb := HG.out.cb
      have p2 := HG.out.cp 2 (v := .int .u32 0) rfl
      have z2 := blk_frozen HG.out.pk 2
      have p7 := HG.out.cp 7 (v := .int .u64 0) rfl
      have z7 := blk_frozen HG.out.pk 7
      have p8 := HG.out.cp 8 (v := .slice none 0 0) rfl
      have z8 := blk_frozen HG.out.pk 8
      by_cases n7 : c = 13
      · subst n7
        have KX := Lib.hid (KC.out rfl)
        clear KB KC
        go_wp2_with fail
        go_region_held3 (fun w' => w'.cell? ⟨w.heap.size, 0, none⟩ = some (.slice (some ad) l.length 13)) (first | assumption | (refine keep0 ?_ ?_; ((try dsimp only); omega); assumption) | (refine keep1 ?_ ?_; ((try dsimp only); omega); assumption) | go_keep)
          (first
            | (go_at_call 37; (with_reducible refine (K1.out _ _ HG.out.drew).mono ?_); rintro e w1 ⟨rfl, hb⟩; have HGA := Lib.hid (GW.call HG.out.drew hb); have qbA := HGA.out.cb; have p2A := HGA.out.cp 2 (v := .int .u32 0) rfl; have z2A := blk_frozen HGA.out.pk 2; have p7A := HGA.out.cp 7 (v := .int .u64 0) rfl; have z7A := blk_frozen HGA.out.pk 7; have p8A := HGA.out.cp 8 (v := .slice none 0 0) rfl; have z8A := blk_frozen HGA.out.pk 8; clear hb)
            | (go_at_call 38; (with_reducible refine (KL.out 8 _ _ rfl HGA.out).mono ?_); rintro e w2 ⟨rfl, hb⟩; have HGB := Lib.hid (GW.call HGA.out hb); have qbB := HGB.out.cb; have p2B := HGB.out.cp 2 (v := .int .u32 0) rfl; have z2B := blk_frozen HGB.out.pk 2; have p7B := HGB.out.cp 7 (v := .int .u64 0) rfl; have z7B := blk_frozen HGB.out.pk 7; have p8B := HGB.out.cp 8 (v := .slice none 0 0) rfl; have z8B := blk_frozen HGB.out.pk 8; clear hb)
            | (go_at_call 39; (with_reducible refine (KX.out _ _ HGB.out).mono ?_); rintro e w3 ⟨Ay, ky, rfl, hO, hb⟩; have HGD := Lib.hid (GW.call HGB.out hb); have HOB := Lib.hid hO; have qbD := HGD.out.cb; have p2D := HGD.out.cp 2 (v := .int .u32 0) rfl; have z2D := blk_frozen HGD.out.pk 2; have p7D := HGD.out.cp 7 (v := .int .u64 0) rfl; have z7D := blk_frozen HGD.out.pk 7; have p8D := HGD.out.cp 8 (v := .slice none 0 0) rfl; have z8D := blk_frozen HGD.out.pk 8; clear hO hb))
        all_goals go_wp2_with fail
        all_goals go_meet
        all_goals (rw [show l.length - 13 = 0 by omega]; exact ⟨rfl, rfl, rfl, Ay, ky, ((HGD.out.set 2 _).set 7 _).set 8 _, ((HOB.out.set (p := ⟨w.heap.size + 1 + 1 + 1, 2, none⟩) (by dsimp only; omega) _).set (p := ⟨w.heap.size + 1 + 1 + 1, 7, none⟩) (by dsimp only; omega) _).set (p := ⟨w.heap.size + 1 + 1 + 1, 8, none⟩) (by dsimp only; omega) _⟩)
      · have KX := Lib.hid (KB.out n7)
        clear KB KC
        go_wp2_with fail
        go_region_held3 (fun w' => w'.cell? ⟨w.heap.size, 0, none⟩ = some (.slice (some ad) l.length c)) (first | assumption | (refine keep0 ?_ ?_; ((try dsimp only); omega); assumption) | (refine keep1 ?_ ?_; ((try dsimp only); omega); assumption) | go_keep)
          (first
            | (go_at_call 37; (with_reducible refine (K1.out _ _ HG.out.drew).mono ?_); rintro e w1 ⟨rfl, hb⟩; have HGA := Lib.hid (GW.call HG.out.drew hb); have qbA := HGA.out.cb; have p2A := HGA.out.cp 2 (v := .int .u32 0) rfl; have z2A := blk_frozen HGA.out.pk 2; have p7A := HGA.out.cp 7 (v := .int .u64 0) rfl; have z7A := blk_frozen HGA.out.pk 7; have p8A := HGA.out.cp 8 (v := .slice none 0 0) rfl; have z8A := blk_frozen HGA.out.pk 8; clear hb)
            | (go_at_call 38; (with_reducible refine (KL.out (c - 5) _ _ rfl HGA.out).mono ?_); rintro e w2 ⟨rfl, hb⟩; have HGB := Lib.hid (GW.call HGA.out hb); have qbB := HGB.out.cb; have p2B := HGB.out.cp 2 (v := .int .u32 0) rfl; have z2B := blk_frozen HGB.out.pk 2; have p7B := HGB.out.cp 7 (v := .int .u64 0) rfl; have z7B := blk_frozen HGB.out.pk 7; have p8B := HGB.out.cp 8 (v := .slice none 0 0) rfl; have z8B := blk_frozen HGB.out.pk 8; clear hb)
            | (go_at_call 39; (with_reducible refine (KX.out _ _ HGB.out).mono ?_); rintro e w3 ⟨Ay, ky, rfl, hO, hb⟩; have HGD := Lib.hid (GW.call HGB.out hb); have HOB := Lib.hid hO; have qbD := HGD.out.cb; have p2D := HGD.out.cp 2 (v := .int .u32 0) rfl; have z2D := blk_frozen HGD.out.pk 2; have p7D := HGD.out.cp 7 (v := .int .u64 0) rfl; have z7D := blk_frozen HGD.out.pk 7; have p8D := HGD.out.cp 8 (v := .slice none 0 0) rfl; have z8D := blk_frozen HGD.out.pk 8; clear hO hb))
        all_goals go_wp2_with fail
        all_goals go_meet
        all_goals exact ⟨rfl, rfl, rfl, Ay, ky, ((HGD.out.set 2 _).set 7 _).set 8 _, ((HOB.out.set (p := ⟨w.heap.size + 1 + 1 + 1, 2, none⟩) (by dsimp only; omega) _).set (p := ⟨w.heap.size + 1 + 1 + 1, 7, none⟩) (by dsimp only; omega) _).set (p := ⟨w.heap.size + 1 + 1 + 1, 8, none⟩) (by dsimp only; omega) _⟩
    case rest =>
      clear HG K1 KL KB KC
      obtain ⟨rfl, rfl, rfl, Ay, ky,  hG, hHOB⟩ := hcut
      have HG := Lib.hid hG
      have HOB := Lib.hid hHOB
      have p0 := hG.cp 0 (v := .int .i64 3) rfl
      have p1 := hG.cp 1 (v := .int .u32 0) rfl
      have p2 := hG.cp 2 (v := .int .u32 T) rfl
      have p3 := hG.cp 3 (v := .int .i64 0) rfl
      have p4 := hG.cp 4 (v := .int .i64 0) rfl
      have p5 := hG.cp 5 (v := .int .i64 0) rfl
      have p6 := hG.cp 6 (v := .slice none 0 0) rfl
      have p7 := hG.cp 7 (v := .int .u64 C) rfl
      have p8 := hG.cp 8 (v := .slice Ay (l.length - 13) ky) rfl
      clear hG hHOB
      go_wp2_with fail
      with_reducible refine (KM.out _ _ _ HOB.out).mono ?_
      rintro e w3 ⟨rfl, hb⟩
      have HG3 := Lib.hid (HG.out.call hb)
      have HOB3 := Lib.hid (OwnA.below HOB.out hb)
      clear hb p0 p1 p2 p3 p4 p5 p6 p7 p8
      have p0 := HG3.out.cp 0 (v := .int .i64 3) rfl
      have p1 := HG3.out.cp 1 (v := .int .u32 0) rfl
      have p2 := HG3.out.cp 2 (v := .int .u32 T) rfl
      have p3 := HG3.out.cp 3 (v := .int .i64 0) rfl
      have p4 := HG3.out.cp 4 (v := .int .i64 0) rfl
      have p5 := HG3.out.cp 5 (v := .int .i64 0) rfl
      have p6 := HG3.out.cp 6 (v := .slice none 0 0) rfl
      have p7 := HG3.out.cp 7 (v := .int .u64 C) rfl
      have p8 := HG3.out.cp 8 (v := .slice Ay (l.length - 13) ky) rfl
      have r0 := HG3.out.cr 0 (v := .int .i64 0) rfl
      have r1 := HG3.out.cr 1 (v := .int .u32 0) rfl
      have r2 := HG3.out.cr 2 (v := .int .u32 0) rfl
      have r3 := HG3.out.cr 3 (v := .int .i64 0) rfl
      have r4 := HG3.out.cr 4 (v := .int .i64 0) rfl
      have r5 := HG3.out.cr 5 (v := .int .i64 0) rfl
      have r6 := HG3.out.cr 6 (v := .slice none 0 0) rfl
      have r7 := HG3.out.cr 7 (v := .int .u64 0) rfl
      have r8 := HG3.out.cr 8 (v := .slice none 0 0) rfl
      have f0 := blk_frozen HG3.out.res 0
      have f1 := blk_frozen HG3.out.res 1
      have f2 := blk_frozen HG3.out.res 2
      have f3 := blk_frozen HG3.out.res 3
      have f4 := blk_frozen HG3.out.res 4
      have f5 := blk_frozen HG3.out.res 5
      have f6 := blk_frozen HG3.out.res 6
      have f7 := blk_frozen HG3.out.res 7
      have f8 := blk_frozen HG3.out.res 8
      cases mb
      · have hg : good l = false := HGO.out.trans HMB.out
        have hn : errn l = 40 := by unfold errn; rw [if_neg (by omega), if_neg (by omega), if_neg (by rw [hg]; simp)]
        have HGF := Lib.hid hg
        have HN := Lib.hid hn
        clear hg hn
        go_wp2
        exact ret_pk45 rfl (w.heap.size + 1) _ (.int .i64 40) rfl rfl (set9 _ _ _ _ _ _ _ _ _ HG3.out.res) (by kernel_rfl) rfl (getsO_bad HGF.out HN.out (by repeat (first | (with_reducible exact HG3.out.below) | (with_reducible refine Below.setCell ?_ (by simp) _))))
      · have hg : good l = true := HGO.out.trans HMB.out
        have hn : errn l = 0 := by unfold errn; rw [if_neg (by omega), if_neg (by omega), if_pos hg]
        have HGF := Lib.hid hg
        have HN := Lib.hid hn
        clear hg hn
        go_wp2
        refine ret_pk45 rfl (w.heap.size + 1) _ (.int .i64 0) rfl rfl (set9 _ _ _ _ _ _ _ _ _ HG3.out.res) (by kernel_rfl) rfl ?_
        exact getsO_good HGF.out HN.out HP.out rfl L4.out (OwnA.nil _ _) (OwnA.lower (base := w.heap.size + 1 + 1 + 1 + 1) (by repeat (first | (with_reducible exact HOB3.out) | (with_reducible refine OwnA.set ?_ (by dsimp only; omega) _))) (by omega)) (by repeat (first | (with_reducible exact HG3.out.below) | (with_reducible refine Below.setCell ?_ (by simp) _)))
set_option maxHeartbeats 8000000 in
set_option maxRecDepth 100000 in
theorem get_4 (A : Option Addr) (c : Nat) (l : List Int) (w : World) (h : Rd w A c l) (h0 : l.length ≤ 1200) (h1 : 13 ≤ l.length) (hk : l.getD 0 0 = 4) : Calls Try.prog 25 #[.slice A l.length c] w (GetsO w l) := by
  have hc := h.c
  obtain ⟨ad, rfl, hlt, hx⟩ := h.at (by omega)
  have c0 := hx 0 (by omega)
  rw [hk, show ad.add 0 = ad from rfl] at c0
  have i0 : (l.length : Int) ≤ 1200 := by omega
  have i1 : ((l.length : Int) == 0) = false := by rw [beq_eq_false_iff_ne]; omega
  have i2 : (13 : Int) ≤ l.length := by omega
  have hlt1 : ad.block < w.heap.size + 1 := by omega
  have hlt2 : ad.block < w.heap.size + 1 + 1 := by omega
  have hlt3 : ad.block < w.heap.size + 1 + 1 + 1 := by omega
  obtain ⟨T, hT⟩ : ∃ x, le ((l.take 5).drop 1) = x := ⟨_, rfl⟩
  have bT := le4 h.b 1 5 rfl
  rw [hT] at bT
  obtain ⟨bT0, bT1⟩ := bT
  obtain ⟨C, hC⟩ : ∃ x, le ((l.take 13).drop 5) = x := ⟨_, rfl⟩
  have bC := le8 h.b 5 13 rfl
  rw [hC] at bC
  obtain ⟨bC0, bC1⟩ := bC
  have hP : parse l = ⟨4, 0, T, 0, 0, 0, [], C, l.drop 13⟩ := by unfold parse; rw [if_neg (by omega), if_neg (by omega), hk]; rw [hT, hC]
  have hok : (⟨4, 0, T, 0, 0, 0, [], C, l.drop 13⟩ : Pk).ok := by
    refine ⟨?_, ?_, ?_, ?_, ?_, ?_, ?_⟩ <;> (try unfold I64) <;> dsimp only <;> omega
  have hgo := good_34 l h0 h1 (.inr hk)
  have H := Lib.hid h
  have K1 : Hid (∀ P w', GW w ad l.length c P w' → Calls Try.prog 37 #[.int .i64 1, .pointer (some ⟨w.heap.size, 0, none⟩)] w' fun e w2 => e = .returned (.int .u32 T) ∧ Below w'.heap.size w' w2) := fun P w' g => number_1 ad c l _ w' (h.below g.below) g.box (by omega) T hT
  have KL : Hid (∀ k P w', k = c - 5 → GW w ad l.length c P w' → Calls Try.prog 38 #[.slice (some ⟨ad.block, ad.off + 5, none⟩) 8 k] w' fun e w2 => e = .returned (.int .u64 C) ∧ Below w'.heap.size w' w2) := fun k P w' hk g => by subst hk; rw [← hC]; exact cload w' ((h.below g.below).mid 5 13 (by omega) (by omega) (by omega)) (by simp; omega) (.inr rfl)
  have KB : Hid (¬ c = 13 → ∀ P w', GW w ad l.length c P w' → Calls Try.prog 39 #[.slice (some ⟨ad.block, ad.off + 13, none⟩) (l.length - 13) (c - 13)] w' fun e w2 => ∃ A' k', e = .returned (.slice A' (l.length - 13) k') ∧ OwnA w2 (w.heap.size + 1 + 1 + 1 + 1) (.slice A' (l.length - 13) k') (l.drop 13) ∧ Below w'.heap.size w' w2) := fun hne P w' g => clone_at h (fun w' hw => hw.from 13 (by omega) (by omega)) (by simp) (by omega) (by simp) g
  have KC : Hid (c = 13 → ∀ P w', GW w ad l.length c P w' → Calls Try.prog 39 #[.slice (some ad) 0 0] w' fun e w2 => ∃ A' k', e = .returned (.slice A' 0 k') ∧ OwnA w2 (w.heap.size + 1 + 1 + 1 + 1) (.slice A' 0 k') (l.drop 13) ∧ Below w'.heap.size w' w2) := fun he P w' g => clone_at h (fun w' hw => by rw [show l.drop 13 = [] from List.drop_eq_nil_of_le (by omega)]; exact Rd.empty) (by simp; omega) (by omega) (by simp) g
  have bbod : Bytes (l.drop 13) := fun x hx => h.b x (List.mem_of_mem_drop hx)
  obtain ⟨mb, hmb⟩ : ∃ b, mayB (parse l) = b := ⟨_, rfl⟩
  have KM : Hid (∀ Ay ky w', OwnA w' (w.heap.size + 1 + 1 + 1 + 1) (.slice Ay (l.length - 13) ky) (l.drop 13) → Calls Try.prog 30 #[.agg #[.int .i64 4, .int .u32 0, .int .u32 T, .int .i64 0, .int .i64 0, .int .i64 0, .slice none 0 0, .int .u64 C, .slice Ay (l.length - 13) ky]] w' fun e w2 => e = .returned (.bool mb) ∧ Below w'.heap.size w' w2) := fun Ay ky w' ha => by rw [← hmb, hP]; exact may' _ hok w' (fun x hx => by cases hx) bbod (OwnA.nil w' 0) ha
  have L4 : Hid ((l.drop 13).length = l.length - 13) := by show _ = _; simp
  have HP := Lib.hid hP
  have HGO := Lib.hid hgo
  have HMB := Lib.hid hmb
  clear hx h hT hC hP hok hgo hmb bbod hk
  go_enter Try.func25, Try.ntmps25
  go_wp2_with fail
  go_quiet ((fail))
  go_upto_region 10 with fail
  go_cut [1, 2, 3, 5, 6, 38] (fun s1 s2 s3 s5 s6 s38 wx => s1 = .pointer (some ⟨w.heap.size, 0, none⟩) ∧ s2 = .pointer (some ⟨w.heap.size + 1, 0, none⟩) ∧ s3 = .int .i64 0 ∧ s5 = .pointer (some ⟨w.heap.size + 1 + 1 + 1, 0, none⟩) ∧ s6 = .func (.func 37) #[] #[.pointer (some ⟨w.heap.size, 0, none⟩)] ∧ s38 = .int .i64 4 ∧ GW w ad l.length c (pcs 4 0 0 0 0 0 (.slice none 0 0) 0 (.slice none 0 0)) wx)
  case first =>
    go_wp2_with fail
    go_meet
    exact ⟨rfl, rfl, rfl, rfl, rfl, rfl, GW.start w ad l.length c 4 _⟩
  case rest =>
    obtain ⟨rfl, rfl, rfl, rfl, rfl, rfl, hG⟩ := hcut
    have HG := Lib.hid hG
    clear hG
    go_upto_block 1 with fail
    go_cut [2, 3, 5] (fun s2 s3 s5 wx => s2 = .pointer (some ⟨w.heap.size + 1, 0, none⟩) ∧ s3 = .int .i64 0 ∧ s5 = .pointer (some ⟨w.heap.size + 1 + 1 + 1, 0, none⟩) ∧ ∃ Ay ky, GW w ad l.length c (pcs 4 0 T 0 0 0 (.slice none 0 0) C (.slice Ay (l.length - 13) ky)) wx ∧ OwnA wx (w.heap.size + 1 + 1 + 1 + 1) (.slice Ay (l.length - 13) ky) (l.drop 13))
    case first =>
      have j9 : (13 : Int) ≤ (l.length : Int) := by omega
      have n9 : 13 ≤ l.length := by omega
      have j8 : (13 : Int) ≤ (c : Int) := by omega
      have n6 : ¬ c = 5 := by omega
      have qb := HG.out.cb
      have p2 := HG.out.cp 2 (v := .int .u32 0) rfl
      have z2 := blk_frozen HG.out.pk 2
      have p7 := HG.out.cp 7 (v := .int .u64 0) rfl
      have z7 := blk_frozen HG.out.pk 7
      have p8 := HG.out.cp 8 (v := .slice none 0 0) rfl
      have z8 := blk_frozen HG.out.pk 8
      by_cases n7 : c = 13
      · subst n7
        have KX := Lib.hid (KC.out rfl)
        clear KB KC
        go_wp2_with fail
        go_region_held3 (fun w' => w'.cell? ⟨w.heap.size, 0, none⟩ = some (.slice (some ad) l.length 13)) (first | assumption | (refine keep0 ?_ ?_; ((try dsimp only); omega); assumption) | (refine keep1 ?_ ?_; ((try dsimp only); omega); assumption) | go_keep)
          (first
            | (go_at_call 37; (with_reducible refine (K1.out _ _ HG.out.drew).mono ?_); rintro e w1 ⟨rfl, hb⟩; have HGA := Lib.hid (GW.call HG.out.drew hb); have qbA := HGA.out.cb; have p2A := HGA.out.cp 2 (v := .int .u32 0) rfl; have z2A := blk_frozen HGA.out.pk 2; have p7A := HGA.out.cp 7 (v := .int .u64 0) rfl; have z7A := blk_frozen HGA.out.pk 7; have p8A := HGA.out.cp 8 (v := .slice none 0 0) rfl; have z8A := blk_frozen HGA.out.pk 8; clear hb)
            | (go_at_call 38; (with_reducible refine (KL.out 8 _ _ rfl HGA.out).mono ?_); rintro e w2 ⟨rfl, hb⟩; have HGB := Lib.hid (GW.call HGA.out hb); have qbB := HGB.out.cb; have p2B := HGB.out.cp 2 (v := .int .u32 0) rfl; have z2B := blk_frozen HGB.out.pk 2; have p7B := HGB.out.cp 7 (v := .int .u64 0) rfl; have z7B := blk_frozen HGB.out.pk 7; have p8B := HGB.out.cp 8 (v := .slice none 0 0) rfl; have z8B := blk_frozen HGB.out.pk 8; clear hb)
            | (go_at_call 39; (with_reducible refine (KX.out _ _ HGB.out).mono ?_); rintro e w3 ⟨Ay, ky, rfl, hO, hb⟩; have HGD := Lib.hid (GW.call HGB.out hb); have HOB := Lib.hid hO; have qbD := HGD.out.cb; have p2D := HGD.out.cp 2 (v := .int .u32 0) rfl; have z2D := blk_frozen HGD.out.pk 2; have p7D := HGD.out.cp 7 (v := .int .u64 0) rfl; have z7D := blk_frozen HGD.out.pk 7; have p8D := HGD.out.cp 8 (v := .slice none 0 0) rfl; have z8D := blk_frozen HGD.out.pk 8; clear hO hb))
        all_goals go_wp2_with fail
        all_goals go_meet
        all_goals (rw [show l.length - 13 = 0 by omega]; exact ⟨rfl, rfl, rfl, Ay, ky, ((HGD.out.set 2 _).set 7 _).set 8 _, ((HOB.out.set (p := ⟨w.heap.size + 1 + 1 + 1, 2, none⟩) (by dsimp only; omega) _).set (p := ⟨w.heap.size + 1 + 1 + 1, 7, none⟩) (by dsimp only; omega) _).set (p := ⟨w.heap.size + 1 + 1 + 1, 8, none⟩) (by dsimp only; omega) _⟩)
      · have KX := Lib.hid (KB.out n7)
        clear KB KC
        go_wp2_with fail
        go_region_held3 (fun w' => w'.cell? ⟨w.heap.size, 0, none⟩ = some (.slice (some ad) l.length c)) (first | assumption | (refine keep0 ?_ ?_; ((try dsimp only); omega); assumption) | (refine keep1 ?_ ?_; ((try dsimp only); omega); assumption) | go_keep)
          (first
            | (go_at_call 37; (with_reducible refine (K1.out _ _ HG.out.drew).mono ?_); rintro e w1 ⟨rfl, hb⟩; have HGA := Lib.hid (GW.call HG.out.drew hb); have qbA := HGA.out.cb; have p2A := HGA.out.cp 2 (v := .int .u32 0) rfl; have z2A := blk_frozen HGA.out.pk 2; have p7A := HGA.out.cp 7 (v := .int .u64 0) rfl; have z7A := blk_frozen HGA.out.pk 7; have p8A := HGA.out.cp 8 (v := .slice none 0 0) rfl; have z8A := blk_frozen HGA.out.pk 8; clear hb)
            | (go_at_call 38; (with_reducible refine (KL.out (c - 5) _ _ rfl HGA.out).mono ?_); rintro e w2 ⟨rfl, hb⟩; have HGB := Lib.hid (GW.call HGA.out hb); have qbB := HGB.out.cb; have p2B := HGB.out.cp 2 (v := .int .u32 0) rfl; have z2B := blk_frozen HGB.out.pk 2; have p7B := HGB.out.cp 7 (v := .int .u64 0) rfl; have z7B := blk_frozen HGB.out.pk 7; have p8B := HGB.out.cp 8 (v := .slice none 0 0) rfl; have z8B := blk_frozen HGB.out.pk 8; clear hb)
            | (go_at_call 39; (with_reducible refine (KX.out _ _ HGB.out).mono ?_); rintro e w3 ⟨Ay, ky, rfl, hO, hb⟩; have HGD := Lib.hid (GW.call HGB.out hb); have HOB := Lib.hid hO; have qbD := HGD.out.cb; have p2D := HGD.out.cp 2 (v := .int .u32 0) rfl; have z2D := blk_frozen HGD.out.pk 2; have p7D := HGD.out.cp 7 (v := .int .u64 0) rfl; have z7D := blk_frozen HGD.out.pk 7; have p8D := HGD.out.cp 8 (v := .slice none 0 0) rfl; have z8D := blk_frozen HGD.out.pk 8; clear hO hb))
        all_goals go_wp2_with fail
        all_goals go_meet
        all_goals exact ⟨rfl, rfl, rfl, Ay, ky, ((HGD.out.set 2 _).set 7 _).set 8 _, ((HOB.out.set (p := ⟨w.heap.size + 1 + 1 + 1, 2, none⟩) (by dsimp only; omega) _).set (p := ⟨w.heap.size + 1 + 1 + 1, 7, none⟩) (by dsimp only; omega) _).set (p := ⟨w.heap.size + 1 + 1 + 1, 8, none⟩) (by dsimp only; omega) _⟩
    case rest =>
      clear HG K1 KL KB KC
      obtain ⟨rfl, rfl, rfl, Ay, ky,  hG, hHOB⟩ := hcut
      have HG := Lib.hid hG
      have HOB := Lib.hid hHOB
      have p0 := hG.cp 0 (v := .int .i64 4) rfl
      have p1 := hG.cp 1 (v := .int .u32 0) rfl
      have p2 := hG.cp 2 (v := .int .u32 T) rfl
      have p3 := hG.cp 3 (v := .int .i64 0) rfl
      have p4 := hG.cp 4 (v := .int .i64 0) rfl
      have p5 := hG.cp 5 (v := .int .i64 0) rfl
      have p6 := hG.cp 6 (v := .slice none 0 0) rfl
      have p7 := hG.cp 7 (v := .int .u64 C) rfl
      have p8 := hG.cp 8 (v := .slice Ay (l.length - 13) ky) rfl
      clear hG hHOB
      go_wp2_with fail
      with_reducible refine (KM.out _ _ _ HOB.out).mono ?_
      rintro e w3 ⟨rfl, hb⟩
      have HG3 := Lib.hid (HG.out.call hb)
      have HOB3 := Lib.hid (OwnA.below HOB.out hb)
      clear hb p0 p1 p2 p3 p4 p5 p6 p7 p8
      have p0 := HG3.out.cp 0 (v := .int .i64 4) rfl
      have p1 := HG3.out.cp 1 (v := .int .u32 0) rfl
      have p2 := HG3.out.cp 2 (v := .int .u32 T) rfl
      have p3 := HG3.out.cp 3 (v := .int .i64 0) rfl
      have p4 := HG3.out.cp 4 (v := .int .i64 0) rfl
      have p5 := HG3.out.cp 5 (v := .int .i64 0) rfl
      have p6 := HG3.out.cp 6 (v := .slice none 0 0) rfl
      have p7 := HG3.out.cp 7 (v := .int .u64 C) rfl
      have p8 := HG3.out.cp 8 (v := .slice Ay (l.length - 13) ky) rfl
      have r0 := HG3.out.cr 0 (v := .int .i64 0) rfl
      have r1 := HG3.out.cr 1 (v := .int .u32 0) rfl
      have r2 := HG3.out.cr 2 (v := .int .u32 0) rfl
      have r3 := HG3.out.cr 3 (v := .int .i64 0) rfl
      have r4 := HG3.out.cr 4 (v := .int .i64 0) rfl
      have r5 := HG3.out.cr 5 (v := .int .i64 0) rfl
      have r6 := HG3.out.cr 6 (v := .slice none 0 0) rfl
      have r7 := HG3.out.cr 7 (v := .int .u64 0) rfl
      have r8 := HG3.out.cr 8 (v := .slice none 0 0) rfl
      have f0 := blk_frozen HG3.out.res 0
      have f1 := blk_frozen HG3.out.res 1
      have f2 := blk_frozen HG3.out.res 2
      have f3 := blk_frozen HG3.out.res 3
      have f4 := blk_frozen HG3.out.res 4
      have f5 := blk_frozen HG3.out.res 5
      have f6 := blk_frozen HG3.out.res 6
      have f7 := blk_frozen HG3.out.res 7
      have f8 := blk_frozen HG3.out.res 8
      cases mb
      · have hg : good l = false := HGO.out.trans HMB.out
        have hn : errn l = 40 := by unfold errn; rw [if_neg (by omega), if_neg (by omega), if_neg (by rw [hg]; simp)]
        have HGF := Lib.hid hg
        have HN := Lib.hid hn
        clear hg hn
        go_wp2
        exact ret_pk45 rfl (w.heap.size + 1) _ (.int .i64 40) rfl rfl (set9 _ _ _ _ _ _ _ _ _ HG3.out.res) (by kernel_rfl) rfl (getsO_bad HGF.out HN.out (by repeat (first | (with_reducible exact HG3.out.below) | (with_reducible refine Below.setCell ?_ (by simp) _))))
      · have hg : good l = true := HGO.out.trans HMB.out
        have hn : errn l = 0 := by unfold errn; rw [if_neg (by omega), if_neg (by omega), if_pos hg]
        have HGF := Lib.hid hg
        have HN := Lib.hid hn
        clear hg hn
        go_wp2
        refine ret_pk45 rfl (w.heap.size + 1) _ (.int .i64 0) rfl rfl (set9 _ _ _ _ _ _ _ _ _ HG3.out.res) (by kernel_rfl) rfl ?_
        exact getsO_good HGF.out HN.out HP.out rfl L4.out (OwnA.nil _ _) (OwnA.lower (base := w.heap.size + 1 + 1 + 1 + 1) (by repeat (first | (with_reducible exact HOB3.out) | (with_reducible refine OwnA.set ?_ (by dsimp only; omega) _))) (by omega)) (by repeat (first | (with_reducible exact HG3.out.below) | (with_reducible refine Below.setCell ?_ (by simp) _)))
set_option maxHeartbeats 1000000 in
theorem get_long (A : Option Addr) (c : Nat) (l : List Int) (w : World) (h : Rd w A c l) (hl : l.length ≤ 100000) (h1 : 1200 < l.length) : Calls Try.prog 25 #[.slice A l.length c] w (GetsO w l) := by
  have hg : good l = false := by unfold good; rw [decide_eq_false (by omega)]; rfl
  have hn : errn l = 14 := by unfold errn; rw [if_pos h1]
  have HG := Lib.hid hg
  have HN := Lib.hid hn
  clear hg hn
  go_enter Try.func25, Try.ntmps25
  go_wp2
  exact bodyPost_ret (v := .tuple #[.agg #[.int .i64 0, .int .u32 0, .int .u32 0, .int .i64 0, .int .i64 0, .int .i64 0, .slice none 0 0, .int .u64 0, .slice none 0 0], .int .i64 14]) (by simp [results, Try.results25, go_sem]) rfl (getsO_bad HG.out HN.out (by repeat (first | (with_reducible exact Below.refl _ _) | (with_reducible refine Below.setCell ?_ (by simp) _) | (with_reducible refine Below.alloc ?_ (by simp; try omega) _) | (with_reducible refine pw_below_drewN ?_ _) | (with_reducible refine Below.drew ?_))))
set_option maxHeartbeats 1000000 in
theorem get_none (A : Option Addr) (c : Nat) (l : List Int) (w : World) (h : Rd w A c l) (h1 : l.length = 0) : Calls Try.prog 25 #[.slice A l.length c] w (GetsO w l) := by
  have hg : good l = false := by unfold good; rw [decide_eq_false (by omega)]; rfl
  have hn : errn l = 13 := by unfold errn; rw [if_neg (by omega), if_pos h1]
  have HG := Lib.hid hg
  have HN := Lib.hid hn
  have i1 : ((l.length : Int) == 0) = true := by rw [beq_iff_eq]; omega
  have i0 : (l.length : Int) ≤ 1200 := by omega
  clear hg hn h1
  go_enter Try.func25, Try.ntmps25
  go_wp2
  exact bodyPost_ret (v := .tuple #[.agg #[.int .i64 0, .int .u32 0, .int .u32 0, .int .i64 0, .int .i64 0, .int .i64 0, .slice none 0 0, .int .u64 0, .slice none 0 0], .int .i64 13]) (by simp [results, Try.results25, go_sem]) rfl (getsO_bad HG.out HN.out (by repeat (first | (with_reducible exact Below.refl _ _) | (with_reducible refine Below.setCell ?_ (by simp) _) | (with_reducible refine Below.alloc ?_ (by simp; try omega) _) | (with_reducible refine pw_below_drewN ?_ _) | (with_reducible refine Below.drew ?_))))
set_option maxHeartbeats 2000000 in
set_option maxRecDepth 100000 in
theorem get_bad (A : Option Addr) (c : Nat) (l : List Int) (w : World) (h : Rd w A c l) (h0 : l.length ≤ 1200) (h1 : l.length ≠ 0) (hF : ¬ ((l.getD 0 0 = 1 ∧ 28 ≤ l.length) ∨ (l.getD 0 0 = 2 ∧ 21 ≤ l.length) ∨ ((l.getD 0 0 = 3 ∨ l.getD 0 0 = 4) ∧ 13 ≤ l.length))) : Calls Try.prog 25 #[.slice A l.length c] w (GetsO w l) := by
  have hg : good l = false := by
    unfold good
    rw [decide_eq_false (fun h => hF (by have := h.2.2; unfold Form at this; omega))]; rfl
  have hn : errn l = 40 := by unfold errn; rw [if_neg (by omega), if_neg (by omega), if_neg (by rw [hg]; simp)]
  have HG := Lib.hid hg
  have HN := Lib.hid hn
  obtain ⟨ad, rfl, hlt, hx⟩ := h.at (by omega)
  have c0 := hx 0 (by omega)
  rw [show ad.add 0 = ad from rfl] at c0
  have bk := byte_i h.b 0
  obtain ⟨k, hk⟩ : ∃ k, l.getD 0 0 = k := ⟨_, rfl⟩
  rw [hk] at c0 hF bk
  obtain ⟨bk0, bk1⟩ := bk
  have hc := h.c
  have i0 : (l.length : Int) ≤ 1200 := by omega
  have i1 : ((l.length : Int) == 0) = false := by rw [beq_eq_false_iff_ne]; omega
  have hlt1 : ad.block < w.heap.size + 1 := by omega
  have hlt2 : ad.block < w.heap.size + 1 + 1 := by omega
  have hlt3 : ad.block < w.heap.size + 1 + 1 + 1 := by omega
  have KM0 : Hid (∀ w', Calls Try.prog 30 #[.agg #[.int .i64 0, .int .u32 0, .int .u32 0, .int .i64 0, .int .i64 0, .int .i64 0, .slice none 0 0, .int .u64 0, .slice none 0 0]] w' fun e w2 => e = .returned (.bool false) ∧ Below w'.heap.size w' w2) := fun w' => by
    have := may' zeroPk (by refine ⟨?_, ?_, ?_, ?_, ?_, ?_, ?_⟩ <;> (try unfold I64) <;> unfold zeroPk <;> dsimp only <;> omega) (base := 0) (base' := 0) w' (fun x hx => by cases hx) (fun x hx => by cases hx) (OwnA.nil w' 0) (OwnA.nil w' 0)
    rwa [show mayB zeroPk = false by decide +kernel] at this
  clear hx hg hn hk h
  by_cases kb : 5 ≤ k
  · have i2 : (5 : Int) ≤ k := kb
    clear hF
    go_enter Try.func25, Try.ntmps25
    go_wp2_with fail
    go_quiet ((fail))
    go_wp2
    exact bodyPost_ret (v := .tuple #[.agg #[.int .i64 0, .int .u32 0, .int .u32 0, .int .i64 0, .int .i64 0, .int .i64 0, .slice none 0 0, .int .u64 0, .slice none 0 0], .int .i64 40]) (by simp [results, Try.results25, go_sem]) rfl (getsO_bad HG.out HN.out (by repeat (first | (with_reducible exact Below.refl _ _) | (with_reducible refine Below.setCell ?_ (by simp) _) | (with_reducible refine Below.alloc ?_ (by simp; try omega) _) | (with_reducible refine pw_below_drewN ?_ _) | (with_reducible refine Below.drew ?_))))
  by_cases k0 : k = 0
  · subst k0
    clear hF kb
    go_enter Try.func25, Try.ntmps25
    go_wp2_with fail
    go_quiet ((fail))
    go_upto_region 10 with fail
    go_cut [1, 2, 3, 5, 6, 38] (fun s1 s2 s3 s5 s6 s38 wx => s1 = .pointer (some ⟨w.heap.size, 0, none⟩) ∧ s2 = .pointer (some ⟨w.heap.size + 1, 0, none⟩) ∧ s3 = .int .i64 0 ∧ s5 = .pointer (some ⟨w.heap.size + 1 + 1 + 1, 0, none⟩) ∧ s6 = .func (.func 37) #[] #[.pointer (some ⟨w.heap.size, 0, none⟩)] ∧ s38 = .int .i64 0 ∧ GW w ad l.length c (pcs 0 0 0 0 0 0 (.slice none 0 0) 0 (.slice none 0 0)) wx)
    case first =>
      go_wp2_with fail
      go_meet
      exact ⟨rfl, rfl, rfl, rfl, rfl, rfl, GW.start w ad l.length c 0 _⟩
    case rest =>
      obtain ⟨rfl, rfl, rfl, rfl, rfl, rfl, hG⟩ := hcut
      have HG1 := Lib.hid hG
      have p0 := hG.cp 0 (v := .int .i64 0) rfl
      have p1 := hG.cp 1 (v := .int .u32 0) rfl
      have p2 := hG.cp 2 (v := .int .u32 0) rfl
      have p3 := hG.cp 3 (v := .int .i64 0) rfl
      have p4 := hG.cp 4 (v := .int .i64 0) rfl
      have p5 := hG.cp 5 (v := .int .i64 0) rfl
      have p6 := hG.cp 6 (v := .slice none 0 0) rfl
      have p7 := hG.cp 7 (v := .int .u64 0) rfl
      have p8 := hG.cp 8 (v := .slice none 0 0) rfl
      clear hG
      go_wp2_with fail
      with_reducible refine (KM0.out _).mono ?_
      rintro e w3 ⟨rfl, hb⟩
      have HG3 := Lib.hid (HG1.out.call hb)
      clear hb p0 p1 p2 p3 p4 p5 p6 p7 p8
      have p0 := HG3.out.cp 0 (v := .int .i64 0) rfl
      have p1 := HG3.out.cp 1 (v := .int .u32 0) rfl
      have p2 := HG3.out.cp 2 (v := .int .u32 0) rfl
      have p3 := HG3.out.cp 3 (v := .int .i64 0) rfl
      have p4 := HG3.out.cp 4 (v := .int .i64 0) rfl
      have p5 := HG3.out.cp 5 (v := .int .i64 0) rfl
      have p6 := HG3.out.cp 6 (v := .slice none 0 0) rfl
      have p7 := HG3.out.cp 7 (v := .int .u64 0) rfl
      have p8 := HG3.out.cp 8 (v := .slice none 0 0) rfl
      have r0 := HG3.out.cr 0 (v := .int .i64 0) rfl
      have r1 := HG3.out.cr 1 (v := .int .u32 0) rfl
      have r2 := HG3.out.cr 2 (v := .int .u32 0) rfl
      have r3 := HG3.out.cr 3 (v := .int .i64 0) rfl
      have r4 := HG3.out.cr 4 (v := .int .i64 0) rfl
      have r5 := HG3.out.cr 5 (v := .int .i64 0) rfl
      have r6 := HG3.out.cr 6 (v := .slice none 0 0) rfl
      have r7 := HG3.out.cr 7 (v := .int .u64 0) rfl
      have r8 := HG3.out.cr 8 (v := .slice none 0 0) rfl
      have f0 := blk_frozen HG3.out.res 0
      have f1 := blk_frozen HG3.out.res 1
      have f2 := blk_frozen HG3.out.res 2
      have f3 := blk_frozen HG3.out.res 3
      have f4 := blk_frozen HG3.out.res 4
      have f5 := blk_frozen HG3.out.res 5
      have f6 := blk_frozen HG3.out.res 6
      have f7 := blk_frozen HG3.out.res 7
      have f8 := blk_frozen HG3.out.res 8
      go_wp2
      exact ret_pk45 rfl (w.heap.size + 1) _ (.int .i64 40) rfl rfl (set9 _ _ _ _ _ _ _ _ _ HG3.out.res) (by kernel_rfl) rfl (getsO_bad HG.out HN.out (by repeat (first | (with_reducible exact HG3.out.below) | (with_reducible refine Below.setCell ?_ (by simp) _))))
  by_cases k1 : k = 1
  · subst k1
    have i2 : (l.length : Int) < 28 := by omega
    clear hF kb k0
    go_enter Try.func25, Try.ntmps25
    go_wp2_with fail
    go_quiet ((fail))
    go_wp2
    exact bodyPost_ret (v := .tuple #[.agg #[.int .i64 0, .int .u32 0, .int .u32 0, .int .i64 0, .int .i64 0, .int .i64 0, .slice none 0 0, .int .u64 0, .slice none 0 0], .int .i64 40]) (by simp [results, Try.results25, go_sem]) rfl (getsO_bad HG.out HN.out (by repeat (first | (with_reducible exact Below.refl _ _) | (with_reducible refine Below.setCell ?_ (by simp) _) | (with_reducible refine Below.alloc ?_ (by simp; try omega) _) | (with_reducible refine pw_below_drewN ?_ _) | (with_reducible refine Below.drew ?_))))
  by_cases k2 : k = 2
  · subst k2
    have i2 : (l.length : Int) < 21 := by omega
    clear hF kb k0 k1
    go_enter Try.func25, Try.ntmps25
    go_wp2_with fail
    go_quiet ((fail))
    go_wp2
    exact bodyPost_ret (v := .tuple #[.agg #[.int .i64 0, .int .u32 0, .int .u32 0, .int .i64 0, .int .i64 0, .int .i64 0, .slice none 0 0, .int .u64 0, .slice none 0 0], .int .i64 40]) (by simp [results, Try.results25, go_sem]) rfl (getsO_bad HG.out HN.out (by repeat (first | (with_reducible exact Below.refl _ _) | (with_reducible refine Below.setCell ?_ (by simp) _) | (with_reducible refine Below.alloc ?_ (by simp; try omega) _) | (with_reducible refine pw_below_drewN ?_ _) | (with_reducible refine Below.drew ?_))))
  by_cases k3 : k = 3
  · subst k3
    have i2 : (l.length : Int) < 13 := by omega
    clear hF kb k0 k1 k2
    go_enter Try.func25, Try.ntmps25
    go_wp2_with fail
    go_quiet ((fail))
    go_wp2
    exact bodyPost_ret (v := .tuple #[.agg #[.int .i64 0, .int .u32 0, .int .u32 0, .int .i64 0, .int .i64 0, .int .i64 0, .slice none 0 0, .int .u64 0, .slice none 0 0], .int .i64 40]) (by simp [results, Try.results25, go_sem]) rfl (getsO_bad HG.out HN.out (by repeat (first | (with_reducible exact Below.refl _ _) | (with_reducible refine Below.setCell ?_ (by simp) _) | (with_reducible refine Below.alloc ?_ (by simp; try omega) _) | (with_reducible refine pw_below_drewN ?_ _) | (with_reducible refine Below.drew ?_))))
  · obtain rfl : k = 4 := by omega
    have i2 : (l.length : Int) < 13 := by omega
    clear hF kb k0 k1 k2 k3
    go_enter Try.func25, Try.ntmps25
    go_wp2_with fail
    go_quiet ((fail))
    go_wp2
    exact bodyPost_ret (v := .tuple #[.agg #[.int .i64 0, .int .u32 0, .int .u32 0, .int .i64 0, .int .i64 0, .int .i64 0, .slice none 0 0, .int .u64 0, .slice none 0 0], .int .i64 40]) (by simp [results, Try.results25, go_sem]) rfl (getsO_bad HG.out HN.out (by repeat (first | (with_reducible exact Below.refl _ _) | (with_reducible refine Below.setCell ?_ (by simp) _) | (with_reducible refine Below.alloc ?_ (by simp; try omega) _) | (with_reducible refine pw_below_drewN ?_ _) | (with_reducible refine Below.drew ?_))))
theorem get_any (A : Option Addr) (c : Nat) (l : List Int) (w : World) (h : Rd w A c l) (hl : l.length ≤ 100000) : Calls Try.prog 25 #[.slice A l.length c] w (GetsO w l) := by
  by_cases h1 : 1200 < l.length
  · exact get_long A c l w h hl h1
  by_cases h2 : l.length = 0
  · exact get_none A c l w h h2
  by_cases hF : (l.getD 0 0 = 1 ∧ 28 ≤ l.length) ∨ (l.getD 0 0 = 2 ∧ 21 ≤ l.length) ∨ ((l.getD 0 0 = 3 ∨ l.getD 0 0 = 4) ∧ 13 ≤ l.length)
  · rcases hF with ⟨k, n⟩ | ⟨k, n⟩ | ⟨k | k, n⟩
    · exact get_1 A c l w h (by omega) n k
    · exact get_2 A c l w h (by omega) n k
    · exact get_3 A c l w h (by omega) n k
    · exact get_4 A c l w h (by omega) n k
  · exact get_bad A c l w h (by omega) h2 hF
end Go.Proofs.Ytkcjgkfgjbhfnaa
