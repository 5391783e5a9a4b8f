import Derived.Test.YtkcjgkfgjbhfnaaWirK
import Derived.Test.YtkcjgkfgjbhfnaaWgets
set_option linter.unusedVariables false
set_option linter.unusedSimpArgs false
namespace Go.Proofs.Ytkcjgkfgjbhfnaa
open Go.RowKit Go.Proofs.YtkcjgkfgjbhfnaaW.PrintWords Go.Proofs.YtkcjgkfgjbhfnaaW.PrintLast Go.Proofs.YtkcjgkfgjbhfnaaW.PrintMore
attribute [local go_sem ↓] Go.wp_at_zero Go.wp_at_succ
theorem Rd.take {w : World} {A : Option Addr} {c : Nat} {l : List Int} (h : Rd w A c l) (m : Nat) (hm : m ≤ l.length) : Rd w A c (l.take m) :=
  ⟨Kd.C_take h.r hm, by have := h.c; simp; omega, fun x hx => h.b x (List.mem_of_mem_take hx)⟩
theorem pgetT {A : Option Addr} {c : Nat} {l : List Int} (m : Nat) (hm : m ≤ l.length) (w : World) (h : Rd w A c l) (hl : l.length ≤ 100000) : Calls Try.prog 25 #[.slice A m c] w
    fun e w2 => ∃ A' c' B' d', e = .returned (.tuple #[.agg (pkc (getP (l.take m)) A' c' B' d'), .int .i64 (errn (l.take m))]) ∧ Rd w2 A' c' (getP (l.take m)).mac ∧ Rd w2 B' d' (getP (l.take m)).body ∧ Below w.heap.size w w2 := by
  have h2 := h.take m hm
  have h3 := pget A c (l.take m) w h2 (by simp; omega)
  rw [show (l.take m).length = m by simp; omega] at h3
  refine h3.mono ?_
  rintro e w2 ⟨A', c', B', d', rfl, hA, hB, hb⟩
  obtain ⟨b1, b2⟩ := bytes_of h2.b rfl
  exact ⟨A', c', B', d', rfl, (hA.rd b1).2, (hB.rd b2).2, hb⟩
theorem prgetT {A : Option Addr} {c : Nat} {l : List Int} (m : Nat) (hm : m ≤ l.length) (w : World) (h : Rd w A c l) (hl : l.length ≤ 100000) : Calls Try.prog 26 #[.slice A m c] w
    fun e w2 => ∃ A' c' B' d', e = .returned (.tuple #[.agg (pkc (getP (l.take m)) A' c' B' d'), .int .i64 (errn (l.take m))]) ∧ Rd w2 A' c' (getP (l.take m)).mac ∧ Rd w2 B' d' (getP (l.take m)).body ∧ Below w.heap.size w w2 := by
  have h2 := h.take m hm
  have h3 := prget A c (l.take m) w h2 (by simp; omega)
  rwa [show (l.take m).length = m by simp; omega] at h3
theorem addr0 (g j : Nat) : (⟨g, 0, none⟩ : Addr).add j = ⟨g, j, none⟩ := by
  unfold Addr.add
  simp <;> omega
theorem C_arr {w : World} {g n : Nat} {t : TypeId} {l : List Int} (h : w.heap[g]? = some (.cells (nums .u8 l).toArray t (0, 0))) (hn : l.length = n) (hl : n ≤ 1000) : Kd.C (Kd.int .u8) w (some ⟨g, 0, none⟩) n l := by
  refine Kd.C_of_reads (d := (0 : Int)) ⟨hn, by omega, fun _ => ⟨_, rfl, fun j hj => ?_⟩⟩
  have := blk_cell h j
  rw [show (⟨g, 0, none⟩ : Addr).add j = ⟨g, j, none⟩ from addr0 g j]
  rw [this]
  simp [nums, List.getD_eq_getElem?_getD, List.getElem?_eq_getElem (show j < l.length by omega)] <;> omega
theorem lit_R (w : World) (k : Int) : Kd.R (Kd.int .u8) 5 (w.alloc (.cells #[.int .u8 k] 5)) w.heap.size (fun _ => True) (.slice (some ⟨w.heap.size, 0, none⟩) 1 1) [k] :=
  Kd.R_of_own (enc := Value.int .u8) (h1 := fun _ => rfl) (own_lit w w.heap.size 5 .u8 [k] (Nat.le_refl _) (by simp)) (fun _ _ => trivial)
theorem and7 (x : Int) (h : 0 ≤ x ∧ x ≤ 255) : 0 ≤ bits .and .u8 x 7 ∧ bits .and .u8 x 7 ≤ 255 := by
  obtain ⟨n, rfl⟩ := Int.eq_ofNat_of_zero_le h.1
  have hn : n < 256 := by omega
  have key : ∀ m : Fin 256, 0 ≤ bits .and .u8 ((m.val : Nat) : Int) 7 ∧ bits .and .u8 ((m.val : Nat) : Int) 7 ≤ 255 := by decide +kernel
  exact key ⟨n, hn⟩
set_option maxHeartbeats 8000000 in
set_option maxRecDepth 100000 in
theorem heads_walk (w : World) (a0 : Int) (l1 : List Int) (A2 : Option Addr) (c2 : Nat) (l2 : List Int)
    (b0 : 0 ≤ a0 ∧ a0 ≤ 255) (hl1 : l1.length = 27) (hw1 : ∀ x ∈ l1, 0 ≤ x ∧ x ≤ 255) (hC2 : Kd.C (Kd.int .u8) w A2 l2.length l2) (hc2 : l2.length ≤ c2) (hy2 : l2.length * 1 ≤ 140737488351232) (hw2 : ∀ x ∈ l2, 0 ≤ x ∧ x ≤ 255) :
    Calls Try.prog 10 #[.int .u8 a0, .agg (nums .u8 l1).toArray, .slice A2 l2.length c2] w fun e w' => e = .returned (.bool true) ∧ Below w.heap.size w w' := by
  have HR0 : Hid (Rd w A2 c2 l2) := ⟨hC2, hc2, hw2⟩
  have HL1 := Lib.hid hl1
  have HB1 : Hid (Bytes l1) := hw1
  have HA0 : Hid (0 ≤ bits .and .u8 a0 7 ∧ bits .and .u8 a0 7 ≤ 255) := and7 a0 b0
  obtain ⟨B0, hB0⟩ : ∃ x, (nums .u8 l1).toArray = x := ⟨_, rfl⟩
  have HBB : Hid (B0 = (nums .u8 l1).toArray) := hB0.symm
  rw [hB0]
  clear hl1 hw1 hC2 hy2 hw2 hB0 b0
  by_cases hbig : 1300 < l2.length
  · have i0 : (1300 : Int) < (l2.length : Int) := by omega
    go_enter Try.func10, Try.ntmps10
    go_wp2_with fail
    with_reducible refine (awake_any _).mono ?_
    rintro e w1 ⟨rfl, hb⟩
    have HB1' : Hid (Below w.heap.size w w1) := Below.trans ((Below.refl _ _).alloc (Nat.le_refl _) _) (hb.mono (by simp))
    clear hb
    go_wp2
    go_ret
    exact ⟨rfl, HB1'.out⟩
  · have i0 : (l2.length : Int) ≤ 1300 := by omega
    go_enter Try.func10, Try.ntmps10
    go_wp2_with fail
    with_reducible refine (awake_any _).mono ?_
    rintro e w1 ⟨rfl, hb⟩
    have HB1' : Hid (Below w.heap.size w w1) := Below.trans ((Below.refl _ _).alloc (Nat.le_refl _) _) (hb.mono (by simp))
    have HBOX : Hid (w1.heap[w.heap.size]? = some (.cells (nums .u8 l1).toArray 61 (0, 0))) := (hb.block _ (by simp)).trans (by rw [← HBB.out]; exact heap_alloc_new w _)
    have HR1 := Lib.hid (HR0.out.below HB1'.out)
    clear hb HR0
    obtain ⟨k, hk⟩ : ∃ k, bits .and .u8 a0 7 = k := ⟨_, rfl⟩
    have HK : Hid (0 ≤ k ∧ k ≤ 255) := by rw [← hk]; exact HA0.out
    have HO1 := Lib.hid (lit_R w1 k)
    have HAL : Hid (Below w1.heap.size w1 (w1.alloc (.cells #[.int .u8 k] 5))) := (Below.refl _ _).alloc (Nat.le_refl _) _
    have HCB : Hid (Kd.C (Kd.int .u8) (w1.alloc (.cells #[.int .u8 k] 5)) (some ⟨w.heap.size, 0, none⟩) 27 l1) := C_arr ((HAL.out.block _ (blk_lt HBOX.out)).trans HBOX.out) HL1.out (by omega)
    have hlen1 : l1.length = 27 := HL1.out
    simp only [hk]
    go_upto_region 9 with (first | ((with_reducible refine gate_builtin (b := .append) (xs := #[.tmp 27, .tmp 28]) rfl ?_); at_builtin; refine Kd.R_append_rows (Kd.int .u8) (w0 := w1) w1.heap.size rfl (.tmp 27) (.tmp 28) 37 5 (.int .u8 0) 1 rfl Try.underlying37 info5' rfl (by decide) (by omega) (.slice (some ⟨w1.heap.size, 0, none⟩) 1 1) [k] l1 (some ⟨w.heap.size, 0, none⟩) 27 27 (fun _ => True) (fun _ => False) rfl rfl HO1.out HCB.out ?aK (fun _ h => h.elim) (fun _ _ => trivial) HAL.out (by simp) (by simp) ?_; (case aK => exact (by intro x cs h; exact h)); intro v1 wa hR hB hgr hat; have HO2 := Lib.hid hR; have HBA := Lib.hid hB; have HM2 := Lib.hid (HR1.out.below hB); clear hR hB hgr hat) | ((with_reducible refine gate_builtin (b := .append) (xs := #[.tmp 30, .tmp 31]) rfl ?_); at_builtin; refine Kd.R_append_rows (Kd.int .u8) (w0 := w1) w1.heap.size rfl (.tmp 30) (.tmp 31) 37 5 (.int .u8 0) 1 rfl Try.underlying37 info5' rfl (by decide) (by omega) v1 ([k] ++ l1) l2 A2 l2.length c2 (fun _ => True) (fun _ => False) rfl rfl HO2.out HM2.out.r ?aK2 (fun _ h => h.elim) (fun _ _ => trivial) HBA.out HBA.out.size (by simp; omega) ?_; (case aK2 => exact (by intro x cs h; exact h)); intro v2 wb hR hB hgr hat; have HO3 := Lib.hid hR; have HBW := Lib.hid hB; clear hR hB hgr hat))
    have hR := HO3.out
    obtain ⟨L, hLL⟩ : ∃ L, [k] ++ l1 ++ l2 = L := ⟨_, rfl⟩
    have hLlen : 28 ≤ L.length ∧ L.length ≤ 2000 := by rw [← hLL]; simp; omega
    rw [hLL] at hR
    have hLb : Bytes L := fun x hx => by
      rw [← hLL] at hx
      rcases List.mem_append.1 hx with h | h
      · rcases List.mem_append.1 h with h | h
        · rw [List.mem_singleton.1 h]; exact HK.out
        · exact HB1.out x h
      · exact HR1.out.b x h
    obtain ⟨gb, cap, ev, hge, hgl, _⟩ := Kd.R_form hR (by omega)
    subst ev
    have HRW : Hid (Rd wb (some ⟨gb, 0, none⟩) cap L) := ⟨(Kd.R_reads' hR).2.2, (Kd.R_reads' hR).2.1, hLb⟩
    have hcap : L.length ≤ cap := HRW.out.c
    have HBX := Lib.hid (HB1'.out.trans (HBW.out.mono HB1'.out.size))
    obtain ⟨hL1, hL2⟩ := hLlen
    have HLb : Hid (L.length ≤ 100000) := by show _ ≤ _; omega
    clear hR hLL HO1 HO2 HO3 HAL HCB HBA HM2 HBW HBOX HR1 HB1' hLb HK hk hge hgl HBB hlen1
    go_wp2_with fail
    go_loopw [9] (fun s9 wr => ∃ m : Nat, 13 ≤ m ∧ m ≤ 64 ∧ s9 = .int .i64 m ∧ Rd wr (some ⟨gb, 0, none⟩) cap L ∧ Below w.heap.size w wr) (fun s _ => 64 - (intOf s).toNat)
    case atStart => exact ⟨13, by omega, by omega, rfl, HRW.out, HBX.out⟩
    case round =>
      clear HRW HBX
      obtain ⟨m, hm1, hm2, rfl, hR, hB⟩ := hrel
      have HR := Lib.hid hR
      have HB := Lib.hid hB
      clear hR hB
      by_cases hmL : m ≤ L.length
      · have i1 : (m : Int) ≤ (L.length : Int) := by omega
        have i2 : (m : Int) ≤ (cap : Int) := by omega
        obtain ⟨P, hP⟩ : ∃ P, getP (L.take m) = P := ⟨_, rfl⟩
        obtain ⟨n, hn⟩ : ∃ n, errn (L.take m) = n := ⟨_, rfl⟩
        have KG : Hid (∀ w', Rd w' (some ⟨gb, 0, none⟩) cap L → Calls Try.prog 25 #[.slice (some ⟨gb, 0, none⟩) (m) cap] w' fun e w2 => ∃ A' c' B' d', e = .returned (.tuple #[.agg (pkc P A' c' B' d'), .int .i64 n]) ∧ Rd w2 A' c' P.mac ∧ Rd w2 B' d' P.body ∧ Below w'.heap.size w' w2) := fun w' h => by rw [← hP, ← hn]; exact pgetT m (by omega) w' h HLb.out
        have KF : Hid (∀ w', Rd w' (some ⟨gb, 0, none⟩) cap L → Calls Try.prog 26 #[.slice (some ⟨gb, 0, none⟩) (m) cap] w' fun e w2 => ∃ A' c' B' d', e = .returned (.tuple #[.agg (pkc P A' c' B' d'), .int .i64 n]) ∧ Rd w2 A' c' P.mac ∧ Rd w2 B' d' P.body ∧ Below w'.heap.size w' w2) := fun w' h => by rw [← hP, ← hn]; exact prgetT m (by omega) w' h HLb.out
        clear hP hn
        go_wp2_with fail
        with_reducible refine (KG.out _ HR.out).mono ?_
        rintro e w2 ⟨A, c, B, d, rfl, hA, hB, hb⟩
        have HB2 := Lib.hid (HB.out.trans (hb.mono HB.out.size))
        have HR2 := Lib.hid (HR.out.below hb)
        have HA := Lib.hid hA
        have HBd := Lib.hid hB
        clear hA hB hb
        have hal := Lib.hid (heap_alloc_new w2 (.cells z46 45))
        have hn := new_below w2 45 #[.int .i64 0, .int .u32 0, .int .u32 0, .int .i64 0, .int .i64 0, .int .i64 0, .slice none 0 0, .int .u64 0, .slice none 0 0] (pkc P A c B d)
        have H4 := Lib.hid (new_row w2 45 #[.int .i64 0, .int .u32 0, .int .u32 0, .int .i64 0, .int .i64 0, .int .i64 0, .slice none 0 0, .int .u64 0, .slice none 0 0] (pkc P A c B d))
        have HB3 := Lib.hid (HB2.out.trans (hn.mono HB2.out.size))
        have HR3 := Lib.hid (HR2.out.below hn)
        have HA3 := Lib.hid (HA.out.below hn)
        have HBd3 := Lib.hid (HBd.out.below hn)
        clear hn
        go_wp2_with (refine store45 rfl _ _ rfl w2.heap.size P A c B d rfl rfl hal.out ?_)
        with_reducible refine (KF.out _ HR3.out).mono ?_
        rintro e w4 ⟨A', c', B', d', rfl, hA, hB, hb⟩
        have H44 : Hid (w4.heap[w2.heap.size]? = some (.cells (pkc P A c B d) 45 (0, 0))) := (hb.block _ (blk_lt H4.out)).trans H4.out
        have HB4 := Lib.hid (HB3.out.trans (hb.mono HB3.out.size))
        have HR4 := Lib.hid (HR3.out.below hb)
        have HA4 := Lib.hid (HA3.out.below hb)
        have HBd4 := Lib.hid (HBd3.out.below hb)
        have HA' := Lib.hid hA
        have HB' := Lib.hid hB
        clear hA hB hb hal HA HBd HA3 HBd3 HB2 HB3 HR2 HR3 H4
        have hal := Lib.hid (heap_alloc_new w4 (.cells z46 46))
        have hn := new_below w4 46 #[.int .i64 0, .int .u32 0, .int .u32 0, .int .i64 0, .int .i64 0, .int .i64 0, .slice none 0 0, .int .u64 0, .slice none 0 0] (pkc P A' c' B' d')
        obtain ⟨w5, hw5⟩ : ∃ x, (w4.alloc (.cells #[.int .i64 0, .int .u32 0, .int .u32 0, .int .i64 0, .int .i64 0, .int .i64 0, .slice none 0 0, .int .u64 0, .slice none 0 0] 46)).setRow w4.heap.size (pkc P A' c' B' d') = x := ⟨_, rfl⟩
        have H6 : Hid (w5.heap[w4.heap.size]? = some (.cells (pkc P A' c' B' d') 46 (0, 0))) := hw5 ▸ new_row w4 46 #[.int .i64 0, .int .u32 0, .int .u32 0, .int .i64 0, .int .i64 0, .int .i64 0, .slice none 0 0, .int .u64 0, .slice none 0 0] (pkc P A' c' B' d')
        rw [hw5] at hn
        have H45 : Hid (w5.heap[w2.heap.size]? = some (.cells (pkc P A c B d) 45 (0, 0))) := (hn.block _ (blk_lt H44.out)).trans H44.out
        have HB5 := Lib.hid (HB4.out.trans (hn.mono HB4.out.size))
        have HR5 := Lib.hid (HR4.out.below hn)
        have HA := Lib.hid (HA4.out.below hn)
        have HBd := Lib.hid (HBd4.out.below hn)
        have HA'' := Lib.hid (HA'.out.below hn)
        have HB'' := Lib.hid (HB'.out.below hn)
        have HW5 := Lib.hid hw5
        clear hn hw5 HA' HB' HA4 HBd4 HR4 HB4 H44
        have HA' := HA''
        have HB' := HB''
        clear HA'' HB''
        go_upto_region 14 with (refine store46 rfl _ _ rfl w4.heap.size P A' c' B' d' rfl rfl hal.out ?_)
        rw [HW5.out]
        clear hal HW5 KG KF
        have HS : Hid (S2 w5 w2.heap.size w4.heap.size (pkc P A c B d) (pkc P A' c' B' d') w5) := ⟨Below.refl _ _, H45.out, H6.out⟩
        refine wp_region_held_drew (S := S2 w5 w2.heap.size w4.heap.size (pkc P A c B d) (pkc P A' c' B' d')) (by kernel_rfl) HS.out.drew (fun hst => ?_)
        refine wpAnyH_take (i := 0) (oi := { dst := some 53, op := Op.move (Operand.tmp 11), type := 28, pos := "law.go:101", after := #[], guard := none }) (v := .int .i64 n) rfl (by kernel_rfl) (by kernel_rfl) (by kernel_rfl) (fun _ _ _ h => h) (Or.inl ⟨by rfl, fun w' _ => by rfl⟩) hst ?_
        simp only [Act.put, List.setIfInBounds_toArray, List.set_cons_zero, List.set_cons_succ]
        refine wpAnyH_take (i := 1) (oi := { dst := some 54, op := Op.move (Operand.tmp 13), type := 28, pos := "law.go:101", after := #[], guard := none }) (v := .int .i64 n) rfl (by kernel_rfl) (by kernel_rfl) (by kernel_rfl) (fun _ _ _ h => h) (Or.inl ⟨by rfl, fun w' _ => by rfl⟩) hst ?_
        simp only [Act.put, List.setIfInBounds_toArray, List.set_cons_zero, List.set_cons_succ]
        refine wpAnyH_take (i := 2) (oi := { dst := some 55, op := Op.binOp BinOp.neq 28 (Operand.tmp 53) (Operand.tmp 54) 28, type := 4, pos := "law.go:101", after := #[{ on := 0, ground := Ground.data }, { on := 1, ground := Ground.data }], guard := none }) (v := .bool false) rfl (by kernel_rfl) (by kernel_rfl) (by kernel_rfl) (fun _ _ _ h => h) (Or.inl ⟨by rfl, fun w' _ => neq28 rfl rfl⟩) hst ?_
        simp only [Act.put, List.setIfInBounds_toArray, List.set_cons_zero, List.set_cons_succ]
        refine wpAnyH_take (i := 3) (oi := { dst := some 56, op := Op.move (Operand.tmp 55), type := 4, pos := "law.go:101", after := #[{ on := 2, ground := Ground.data }], guard := none }) (v := .bool false) rfl (by kernel_rfl) (by kernel_rfl) (by kernel_rfl) (fun _ _ _ h => h) (Or.inl ⟨by rfl, fun w' _ => by rfl⟩) hst ?_
        simp only [Act.put, List.setIfInBounds_toArray, List.set_cons_zero, List.set_cons_succ]
        refine wpAnyH_take (i := 4) (oi := { dst := some 57, op := Op.load 45 (Operand.tmp 10), type := 45, pos := "law.go:101", after := #[{ on := 3, ground := Ground.guard }], guard := some (3, false) }) (v := .agg (pkc P A c B d)) rfl (by kernel_rfl) (by kernel_rfl) (by kernel_rfl) (fun _ _ _ h => h) (yl45 (by rfl) _ rfl rfl (isz45 P A c B d)) hst ?_
        simp only [Act.put, List.setIfInBounds_toArray, List.set_cons_zero, List.set_cons_succ]
        refine wpAnyH_take (i := 6) (oi := { dst := some 59, op := Op.load 46 (Operand.tmp 12), type := 46, pos := "law.go:101", after := #[{ on := 3, ground := Ground.guard }], guard := some (3, false) }) (v := .agg (pkc P A' c' B' d')) rfl (by kernel_rfl) (by kernel_rfl) (by kernel_rfl) (fun _ _ _ h => h) (yl46 (by rfl) _ rfl rfl (isz46 P A' c' B' d')) hst ?_
        simp only [Act.put, List.setIfInBounds_toArray, List.set_cons_zero, List.set_cons_succ]
        refine wpAnyH_ready (rs := [5]) (by kernel_rfl) (by simp) ?_
        refine AllReadyH.cons (o := { dst := some 58, op := Op.call { callee := Callee.value (Operand.func 19), args := #[Operand.tmp 57], argTypes := #[45] }, type := 46, pos := "law.go:101", after := #[{ on := 4, ground := Ground.data }, { on := 3, ground := Ground.chain }, { on := 3, ground := Ground.guard }], guard := some (3, false) }) rfl (fun K hK => ?_) ?_
        · skip
          go_simp
          refine (pmodel P A c B d _).mono ?_
          rintro e ww3 ⟨rfl, hb2⟩
          refine hK.out _ _ (hst.call hb2) (fun hh1 => ?_)
          clear hK K
          refine wpAnyH_ready (rs := [7]) (by kernel_rfl) (by simp) ?_
          refine AllReadyH.cons (o := { dst := some 60, op := Op.call { callee := Callee.value (Operand.func 27), args := #[Operand.tmp 58, Operand.tmp 59], argTypes := #[46, 46] }, type := 4, pos := "law.go:101", after := #[{ on := 5, ground := Ground.data }, { on := 6, ground := Ground.data }, { on := 5, ground := Ground.chain }, { on := 3, ground := Ground.guard }], guard := some (3, false) }) rfl (fun K hK => ?_) ?_
          · skip
            go_simp
            refine (psame P _ (HA.out.below hh1.below) (HBd.out.below hh1.below) (HA'.out.below hh1.below) (HB'.out.below hh1.below)).mono ?_
            rintro e ww7 ⟨rfl, hb6⟩
            refine hK.out _ _ (hh1.call hb6) (fun hh5 => ?_)
            clear hK K
            refine wpAnyH_take (i := 8) (oi := { dst := some 61, op := Op.unOp UnOp.not 4 (Operand.tmp 60), type := 4, pos := "law.go:101", after := #[{ on := 7, ground := Ground.data }, { on := 3, ground := Ground.guard }], guard := some (3, false) }) (v := .bool false) rfl (by kernel_rfl) (by kernel_rfl) (by kernel_rfl) (fun _ _ _ h => h) (Or.inl ⟨by rfl, fun w' _ => by rfl⟩) hh5 ?_
            simp only [Act.put, List.setIfInBounds_toArray, List.set_cons_zero, List.set_cons_succ]
            refine wpAnyH_take (i := 9) (oi := { dst := some 62, op := Op.pick (Operand.tmp 56) (Operand.const (Value.bool true)) (Operand.tmp 61), type := 4, pos := "law.go:101", after := #[{ on := 3, ground := Ground.data }, { on := 8, ground := Ground.data }], guard := none }) (v := .bool false) rfl (by kernel_rfl) (by kernel_rfl) (by kernel_rfl) (fun _ _ _ h => h) (Or.inl ⟨by rfl, fun w' _ => by rfl⟩) hh5 ?_
            simp only [Act.put, List.setIfInBounds_toArray, List.set_cons_zero, List.set_cons_succ]
            refine wpAnyH_done (by kernel_rfl) ?_ _
            have HZ := Lib.hid hh5
            have HR9 := Lib.hid (HR5.out.below HZ.out.below)
            have HB9 := Lib.hid (HB5.out.trans (HZ.out.below.mono HB5.out.size))
            clear HZ HS HA HBd HA' HB' HB5 HR5 H45 H6 HR HB
            by_cases h60 : 60 < m
            · have i3 : (60 : Int) < (m : Int) := by omega
              have i4 : (L.length : Int) ≤ (cap : Int) := by omega
              obtain ⟨P, hP⟩ : ∃ P, getP (L.take L.length) = P := ⟨_, rfl⟩
              obtain ⟨n, hn⟩ : ∃ n, errn (L.take L.length) = n := ⟨_, rfl⟩
              have KG : Hid (∀ w', Rd w' (some ⟨gb, 0, none⟩) cap L → Calls Try.prog 25 #[.slice (some ⟨gb, 0, none⟩) (L.length) cap] w' fun e w2 => ∃ A' c' B' d', e = .returned (.tuple #[.agg (pkc P A' c' B' d'), .int .i64 n]) ∧ Rd w2 A' c' P.mac ∧ Rd w2 B' d' P.body ∧ Below w'.heap.size w' w2) := fun w' h => by rw [← hP, ← hn]; exact pgetT _ (by omega) w' h HLb.out
              have KF : Hid (∀ w', Rd w' (some ⟨gb, 0, none⟩) cap L → Calls Try.prog 26 #[.slice (some ⟨gb, 0, none⟩) (L.length) cap] w' fun e w2 => ∃ A' c' B' d', e = .returned (.tuple #[.agg (pkc P A' c' B' d'), .int .i64 n]) ∧ Rd w2 A' c' P.mac ∧ Rd w2 B' d' P.body ∧ Below w'.heap.size w' w2) := fun w' h => by rw [← hP, ← hn]; exact prgetT _ (by omega) w' h HLb.out
              clear hP hn
              go_wp2_with fail
              with_reducible refine (KG.out _ HR9.out).mono ?_
              rintro e w2 ⟨A, c, B, d, rfl, hA, hB, hb⟩
              have HB2 := Lib.hid (HB9.out.trans (hb.mono HB9.out.size))
              have HR2 := Lib.hid (HR9.out.below hb)
              have HA := Lib.hid hA
              have HBd := Lib.hid hB
              clear hA hB hb
              have hal := Lib.hid (heap_alloc_new w2 (.cells z46 45))
              have hn := new_below w2 45 #[.int .i64 0, .int .u32 0, .int .u32 0, .int .i64 0, .int .i64 0, .int .i64 0, .slice none 0 0, .int .u64 0, .slice none 0 0] (pkc P A c B d)
              have H4 := Lib.hid (new_row w2 45 #[.int .i64 0, .int .u32 0, .int .u32 0, .int .i64 0, .int .i64 0, .int .i64 0, .slice none 0 0, .int .u64 0, .slice none 0 0] (pkc P A c B d))
              have HB3 := Lib.hid (HB2.out.trans (hn.mono HB2.out.size))
              have HR3 := Lib.hid (HR2.out.below hn)
              have HA3 := Lib.hid (HA.out.below hn)
              have HBd3 := Lib.hid (HBd.out.below hn)
              clear hn
              go_wp2_with (refine store45 rfl _ _ rfl w2.heap.size P A c B d rfl rfl hal.out ?_)
              with_reducible refine (KF.out _ HR3.out).mono ?_
              rintro e w4 ⟨A', c', B', d', rfl, hA, hB, hb⟩
              have H44 : Hid (w4.heap[w2.heap.size]? = some (.cells (pkc P A c B d) 45 (0, 0))) := (hb.block _ (blk_lt H4.out)).trans H4.out
              have HB4 := Lib.hid (HB3.out.trans (hb.mono HB3.out.size))
              have HR4 := Lib.hid (HR3.out.below hb)
              have HA4 := Lib.hid (HA3.out.below hb)
              have HBd4 := Lib.hid (HBd3.out.below hb)
              have HA' := Lib.hid hA
              have HB' := Lib.hid hB
              clear hA hB hb hal HA HBd HA3 HBd3 HB2 HB3 HR2 HR3 H4
              have hal := Lib.hid (heap_alloc_new w4 (.cells z46 46))
              have hn := new_below w4 46 #[.int .i64 0, .int .u32 0, .int .u32 0, .int .i64 0, .int .i64 0, .int .i64 0, .slice none 0 0, .int .u64 0, .slice none 0 0] (pkc P A' c' B' d')
              obtain ⟨w5, hw5⟩ : ∃ x, (w4.alloc (.cells #[.int .i64 0, .int .u32 0, .int .u32 0, .int .i64 0, .int .i64 0, .int .i64 0, .slice none 0 0, .int .u64 0, .slice none 0 0] 46)).setRow w4.heap.size (pkc P A' c' B' d') = x := ⟨_, rfl⟩
              have H6 : Hid (w5.heap[w4.heap.size]? = some (.cells (pkc P A' c' B' d') 46 (0, 0))) := hw5 ▸ new_row w4 46 #[.int .i64 0, .int .u32 0, .int .u32 0, .int .i64 0, .int .i64 0, .int .i64 0, .slice none 0 0, .int .u64 0, .slice none 0 0] (pkc P A' c' B' d')
              rw [hw5] at hn
              have H45 : Hid (w5.heap[w2.heap.size]? = some (.cells (pkc P A c B d) 45 (0, 0))) := (hn.block _ (blk_lt H44.out)).trans H44.out
              have HB5 := Lib.hid (HB4.out.trans (hn.mono HB4.out.size))
              have HR5 := Lib.hid (HR4.out.below hn)
              have HA := Lib.hid (HA4.out.below hn)
              have HBd := Lib.hid (HBd4.out.below hn)
              have HA'' := Lib.hid (HA'.out.below hn)
              have HB'' := Lib.hid (HB'.out.below hn)
              have HW5 := Lib.hid hw5
              clear hn hw5 HA' HB' HA4 HBd4 HR4 HB4 H44
              have HA' := HA''
              have HB' := HB''
              clear HA'' HB''
              go_upto_region 19 with (refine store46 rfl _ _ rfl w4.heap.size P A' c' B' d' rfl rfl hal.out ?_)
              rw [HW5.out]
              clear hal HW5 KG KF
              have HS : Hid (S2 w5 w2.heap.size w4.heap.size (pkc P A c B d) (pkc P A' c' B' d') w5) := ⟨Below.refl _ _, H45.out, H6.out⟩
              refine wp_region_held_drew (S := S2 w5 w2.heap.size w4.heap.size (pkc P A c B d) (pkc P A' c' B' d')) (by kernel_rfl) HS.out.drew (fun hst => ?_)
              refine wpAnyH_take (i := 0) (oi := { dst := some 75, op := Op.move (Operand.tmp 15), type := 28, pos := "law.go:110", after := #[], guard := none }) (v := .int .i64 n) rfl (by kernel_rfl) (by kernel_rfl) (by kernel_rfl) (fun _ _ _ h => h) (Or.inl ⟨by rfl, fun w' _ => by rfl⟩) hst ?_
              simp only [Act.put, List.setIfInBounds_toArray, List.set_cons_zero, List.set_cons_succ]
              refine wpAnyH_take (i := 1) (oi := { dst := some 76, op := Op.move (Operand.tmp 17), type := 28, pos := "law.go:110", after := #[], guard := none }) (v := .int .i64 n) rfl (by kernel_rfl) (by kernel_rfl) (by kernel_rfl) (fun _ _ _ h => h) (Or.inl ⟨by rfl, fun w' _ => by rfl⟩) hst ?_
              simp only [Act.put, List.setIfInBounds_toArray, List.set_cons_zero, List.set_cons_succ]
              refine wpAnyH_take (i := 2) (oi := { dst := some 77, op := Op.binOp BinOp.eql 28 (Operand.tmp 75) (Operand.tmp 76) 28, type := 4, pos := "law.go:110", after := #[{ on := 0, ground := Ground.data }, { on := 1, ground := Ground.data }], guard := none }) (v := .bool true) rfl (by kernel_rfl) (by kernel_rfl) (by kernel_rfl) (fun _ _ _ h => h) (Or.inl ⟨by rfl, fun w' _ => eq28 rfl rfl⟩) hst ?_
              simp only [Act.put, List.setIfInBounds_toArray, List.set_cons_zero, List.set_cons_succ]
              refine wpAnyH_take (i := 3) (oi := { dst := some 78, op := Op.move (Operand.tmp 77), type := 4, pos := "law.go:110", after := #[{ on := 2, ground := Ground.data }], guard := none }) (v := .bool true) rfl (by kernel_rfl) (by kernel_rfl) (by kernel_rfl) (fun _ _ _ h => h) (Or.inl ⟨by rfl, fun w' _ => by rfl⟩) hst ?_
              simp only [Act.put, List.setIfInBounds_toArray, List.set_cons_zero, List.set_cons_succ]
              refine wpAnyH_take (i := 4) (oi := { dst := some 79, op := Op.load 45 (Operand.tmp 14), type := 45, pos := "law.go:110", after := #[{ on := 3, ground := Ground.guard }], guard := some (3, true) }) (v := .agg (pkc P A c B d)) rfl (by kernel_rfl) (by kernel_rfl) (by kernel_rfl) (fun _ _ _ h => h) (yl45 (by rfl) _ rfl rfl (isz45 P A c B d)) hst ?_
              simp only [Act.put, List.setIfInBounds_toArray, List.set_cons_zero, List.set_cons_succ]
              refine wpAnyH_take (i := 6) (oi := { dst := some 81, op := Op.load 46 (Operand.tmp 16), type := 46, pos := "law.go:110", after := #[{ on := 3, ground := Ground.guard }], guard := some (3, true) }) (v := .agg (pkc P A' c' B' d')) rfl (by kernel_rfl) (by kernel_rfl) (by kernel_rfl) (fun _ _ _ h => h) (yl46 (by rfl) _ rfl rfl (isz46 P A' c' B' d')) hst ?_
              simp only [Act.put, List.setIfInBounds_toArray, List.set_cons_zero, List.set_cons_succ]
              refine wpAnyH_ready (rs := [5]) (by kernel_rfl) (by simp) ?_
              refine AllReadyH.cons (o := { dst := some 80, op := Op.call { callee := Callee.value (Operand.func 19), args := #[Operand.tmp 79], argTypes := #[45] }, type := 46, pos := "law.go:110", after := #[{ on := 4, ground := Ground.data }, { on := 3, ground := Ground.chain }, { on := 3, ground := Ground.guard }], guard := some (3, true) }) rfl (fun K hK => ?_) ?_
              · skip
                go_simp
                refine (pmodel P A c B d _).mono ?_
                rintro e ww3 ⟨rfl, hb2⟩
                refine hK.out _ _ (hst.call hb2) (fun hh1 => ?_)
                clear hK K
                refine wpAnyH_ready (rs := [7]) (by kernel_rfl) (by simp) ?_
                refine AllReadyH.cons (o := { dst := some 82, op := Op.call { callee := Callee.value (Operand.func 27), args := #[Operand.tmp 80, Operand.tmp 81], argTypes := #[46, 46] }, type := 4, pos := "law.go:110", after := #[{ on := 5, ground := Ground.data }, { on := 6, ground := Ground.data }, { on := 5, ground := Ground.chain }, { on := 3, ground := Ground.guard }], guard := some (3, true) }) rfl (fun K hK => ?_) ?_
                · skip
                  go_simp
                  refine (psame P _ (HA.out.below hh1.below) (HBd.out.below hh1.below) (HA'.out.below hh1.below) (HB'.out.below hh1.below)).mono ?_
                  rintro e ww7 ⟨rfl, hb6⟩
                  refine hK.out _ _ (hh1.call hb6) (fun hh5 => ?_)
                  clear hK K
                  refine wpAnyH_take (i := 8) (oi := { dst := some 83, op := Op.pick (Operand.tmp 78) (Operand.tmp 82) (Operand.const (Value.bool false)), type := 4, pos := "law.go:110", after := #[{ on := 3, ground := Ground.data }, { on := 7, ground := Ground.data }], guard := none }) (v := .bool true) rfl (by kernel_rfl) (by kernel_rfl) (by kernel_rfl) (fun _ _ _ h => h) (Or.inl ⟨by rfl, fun w' _ => by rfl⟩) hh5 ?_
                  simp only [Act.put, List.setIfInBounds_toArray, List.set_cons_zero, List.set_cons_succ]
                  refine wpAnyH_take (i := 9) (oi := { dst := some 6, op := Op.assign (Operand.tmp 83), type := 4, pos := "law.go:110", after := #[{ on := 8, ground := Ground.data }, { on := 7, ground := Ground.chain }, { on := 0, ground := Ground.phase }, { on := 1, ground := Ground.phase }, { on := 2, ground := Ground.phase }, { on := 3, ground := Ground.phase }, { on := 4, ground := Ground.phase }, { on := 5, ground := Ground.phase }, { on := 6, ground := Ground.phase }, { on := 7, ground := Ground.phase }, { on := 8, ground := Ground.phase }], guard := none }) (v := .bool true) rfl (by kernel_rfl) (by kernel_rfl) (by kernel_rfl) (fun _ _ _ h => h) (Or.inl ⟨by rfl, fun w' _ => by rfl⟩) hh5 ?_
                  simp only [Act.put, List.setIfInBounds_toArray, List.set_cons_zero, List.set_cons_succ]
                  refine wpAnyH_done (by kernel_rfl) ?_ _
                  have HZ := Lib.hid hh5
                  go_wp2_with fail
                  go_ret
                  exact ⟨rfl, HB5.out.trans (HZ.out.below.mono HB5.out.size)⟩
                exact AllReadyH.nil
              exact AllReadyH.nil
            · have i3 : ¬ (60 : Int) < (m : Int) := by omega
              go_wp2_with fail
              go_roundw
              case rel => exact ⟨m + 3, by omega, by omega, by go_num, HR9.out, HB9.out⟩
              case measure => simp [intOf] <;> omega
          exact AllReadyH.nil
        exact AllReadyH.nil
      · have i1 : ¬ (m : Int) ≤ (L.length : Int) := by omega
        obtain ⟨P, hP⟩ : ∃ P, getP (L.take L.length) = P := ⟨_, rfl⟩
        obtain ⟨n, hn⟩ : ∃ n, errn (L.take L.length) = n := ⟨_, rfl⟩
        have KG : Hid (∀ w', Rd w' (some ⟨gb, 0, none⟩) cap L → Calls Try.prog 25 #[.slice (some ⟨gb, 0, none⟩) (L.length) cap] w' fun e w2 => ∃ A' c' B' d', e = .returned (.tuple #[.agg (pkc P A' c' B' d'), .int .i64 n]) ∧ Rd w2 A' c' P.mac ∧ Rd w2 B' d' P.body ∧ Below w'.heap.size w' w2) := fun w' h => by rw [← hP, ← hn]; exact pgetT _ (by omega) w' h HLb.out
        have KF : Hid (∀ w', Rd w' (some ⟨gb, 0, none⟩) cap L → Calls Try.prog 26 #[.slice (some ⟨gb, 0, none⟩) (L.length) cap] w' fun e w2 => ∃ A' c' B' d', e = .returned (.tuple #[.agg (pkc P A' c' B' d'), .int .i64 n]) ∧ Rd w2 A' c' P.mac ∧ Rd w2 B' d' P.body ∧ Below w'.heap.size w' w2) := fun w' h => by rw [← hP, ← hn]; exact prgetT _ (by omega) w' h HLb.out
        clear hP hn
        go_wp2_with fail
        with_reducible refine (KG.out _ HR.out).mono ?_
        rintro e w2 ⟨A, c, B, d, rfl, hA, hB, hb⟩
        have HB2 := Lib.hid (HB.out.trans (hb.mono HB.out.size))
        have HR2 := Lib.hid (HR.out.below hb)
        have HA := Lib.hid hA
        have HBd := Lib.hid hB
        clear hA hB hb
        have hal := Lib.hid (heap_alloc_new w2 (.cells z46 45))
        have hn := new_below w2 45 #[.int .i64 0, .int .u32 0, .int .u32 0, .int .i64 0, .int .i64 0, .int .i64 0, .slice none 0 0, .int .u64 0, .slice none 0 0] (pkc P A c B d)
        have H4 := Lib.hid (new_row w2 45 #[.int .i64 0, .int .u32 0, .int .u32 0, .int .i64 0, .int .i64 0, .int .i64 0, .slice none 0 0, .int .u64 0, .slice none 0 0] (pkc P A c B d))
        have HB3 := Lib.hid (HB2.out.trans (hn.mono HB2.out.size))
        have HR3 := Lib.hid (HR2.out.below hn)
        have HA3 := Lib.hid (HA.out.below hn)
        have HBd3 := Lib.hid (HBd.out.below hn)
        clear hn
        go_wp2_with (refine store45 rfl _ _ rfl w2.heap.size P A c B d rfl rfl hal.out ?_)
        with_reducible refine (KF.out _ HR3.out).mono ?_
        rintro e w4 ⟨A', c', B', d', rfl, hA, hB, hb⟩
        have H44 : Hid (w4.heap[w2.heap.size]? = some (.cells (pkc P A c B d) 45 (0, 0))) := (hb.block _ (blk_lt H4.out)).trans H4.out
        have HB4 := Lib.hid (HB3.out.trans (hb.mono HB3.out.size))
        have HR4 := Lib.hid (HR3.out.below hb)
        have HA4 := Lib.hid (HA3.out.below hb)
        have HBd4 := Lib.hid (HBd3.out.below hb)
        have HA' := Lib.hid hA
        have HB' := Lib.hid hB
        clear hA hB hb hal HA HBd HA3 HBd3 HB2 HB3 HR2 HR3 H4
        have hal := Lib.hid (heap_alloc_new w4 (.cells z46 46))
        have hn := new_below w4 46 #[.int .i64 0, .int .u32 0, .int .u32 0, .int .i64 0, .int .i64 0, .int .i64 0, .slice none 0 0, .int .u64 0, .slice none 0 0] (pkc P A' c' B' d')
        obtain ⟨w5, hw5⟩ : ∃ x, (w4.alloc (.cells #[.int .i64 0, .int .u32 0, .int .u32 0, .int .i64 0, .int .i64 0, .int .i64 0, .slice none 0 0, .int .u64 0, .slice none 0 0] 46)).setRow w4.heap.size (pkc P A' c' B' d') = x := ⟨_, rfl⟩
        have H6 : Hid (w5.heap[w4.heap.size]? = some (.cells (pkc P A' c' B' d') 46 (0, 0))) := hw5 ▸ new_row w4 46 #[.int .i64 0, .int .u32 0, .int .u32 0, .int .i64 0, .int .i64 0, .int .i64 0, .slice none 0 0, .int .u64 0, .slice none 0 0] (pkc P A' c' B' d')
        rw [hw5] at hn
        have H45 : Hid (w5.heap[w2.heap.size]? = some (.cells (pkc P A c B d) 45 (0, 0))) := (hn.block _ (blk_lt H44.out)).trans H44.out
        have HB5 := Lib.hid (HB4.out.trans (hn.mono HB4.out.size))
        have HR5 := Lib.hid (HR4.out.below hn)
        have HA := Lib.hid (HA4.out.below hn)
        have HBd := Lib.hid (HBd4.out.below hn)
        have HA'' := Lib.hid (HA'.out.below hn)
        have HB'' := Lib.hid (HB'.out.below hn)
        have HW5 := Lib.hid hw5
        clear hn hw5 HA' HB' HA4 HBd4 HR4 HB4 H44
        have HA' := HA''
        have HB' := HB''
        clear HA'' HB''
        go_upto_region 19 with (refine store46 rfl _ _ rfl w4.heap.size P A' c' B' d' rfl rfl hal.out ?_)
        rw [HW5.out]
        clear hal HW5 KG KF
        have HS : Hid (S2 w5 w2.heap.size w4.heap.size (pkc P A c B d) (pkc P A' c' B' d') w5) := ⟨Below.refl _ _, H45.out, H6.out⟩
        refine wp_region_held_drew (S := S2 w5 w2.heap.size w4.heap.size (pkc P A c B d) (pkc P A' c' B' d')) (by kernel_rfl) HS.out.drew (fun hst => ?_)
        refine wpAnyH_take (i := 0) (oi := { dst := some 75, op := Op.move (Operand.tmp 15), type := 28, pos := "law.go:110", after := #[], guard := none }) (v := .int .i64 n) rfl (by kernel_rfl) (by kernel_rfl) (by kernel_rfl) (fun _ _ _ h => h) (Or.inl ⟨by rfl, fun w' _ => by rfl⟩) hst ?_
        simp only [Act.put, List.setIfInBounds_toArray, List.set_cons_zero, List.set_cons_succ]
        refine wpAnyH_take (i := 1) (oi := { dst := some 76, op := Op.move (Operand.tmp 17), type := 28, pos := "law.go:110", after := #[], guard := none }) (v := .int .i64 n) rfl (by kernel_rfl) (by kernel_rfl) (by kernel_rfl) (fun _ _ _ h => h) (Or.inl ⟨by rfl, fun w' _ => by rfl⟩) hst ?_
        simp only [Act.put, List.setIfInBounds_toArray, List.set_cons_zero, List.set_cons_succ]
        refine wpAnyH_take (i := 2) (oi := { dst := some 77, op := Op.binOp BinOp.eql 28 (Operand.tmp 75) (Operand.tmp 76) 28, type := 4, pos := "law.go:110", after := #[{ on := 0, ground := Ground.data }, { on := 1, ground := Ground.data }], guard := none }) (v := .bool true) rfl (by kernel_rfl) (by kernel_rfl) (by kernel_rfl) (fun _ _ _ h => h) (Or.inl ⟨by rfl, fun w' _ => eq28 rfl rfl⟩) hst ?_
        simp only [Act.put, List.setIfInBounds_toArray, List.set_cons_zero, List.set_cons_succ]
        refine wpAnyH_take (i := 3) (oi := { dst := some 78, op := Op.move (Operand.tmp 77), type := 4, pos := "law.go:110", after := #[{ on := 2, ground := Ground.data }], guard := none }) (v := .bool true) rfl (by kernel_rfl) (by kernel_rfl) (by kernel_rfl) (fun _ _ _ h => h) (Or.inl ⟨by rfl, fun w' _ => by rfl⟩) hst ?_
        simp only [Act.put, List.setIfInBounds_toArray, List.set_cons_zero, List.set_cons_succ]
        refine wpAnyH_take (i := 4) (oi := { dst := some 79, op := Op.load 45 (Operand.tmp 14), type := 45, pos := "law.go:110", after := #[{ on := 3, ground := Ground.guard }], guard := some (3, true) }) (v := .agg (pkc P A c B d)) rfl (by kernel_rfl) (by kernel_rfl) (by kernel_rfl) (fun _ _ _ h => h) (yl45 (by rfl) _ rfl rfl (isz45 P A c B d)) hst ?_
        simp only [Act.put, List.setIfInBounds_toArray, List.set_cons_zero, List.set_cons_succ]
        refine wpAnyH_take (i := 6) (oi := { dst := some 81, op := Op.load 46 (Operand.tmp 16), type := 46, pos := "law.go:110", after := #[{ on := 3, ground := Ground.guard }], guard := some (3, true) }) (v := .agg (pkc P A' c' B' d')) rfl (by kernel_rfl) (by kernel_rfl) (by kernel_rfl) (fun _ _ _ h => h) (yl46 (by rfl) _ rfl rfl (isz46 P A' c' B' d')) hst ?_
        simp only [Act.put, List.setIfInBounds_toArray, List.set_cons_zero, List.set_cons_succ]
        refine wpAnyH_ready (rs := [5]) (by kernel_rfl) (by simp) ?_
        refine AllReadyH.cons (o := { dst := some 80, op := Op.call { callee := Callee.value (Operand.func 19), args := #[Operand.tmp 79], argTypes := #[45] }, type := 46, pos := "law.go:110", after := #[{ on := 4, ground := Ground.data }, { on := 3, ground := Ground.chain }, { on := 3, ground := Ground.guard }], guard := some (3, true) }) rfl (fun K hK => ?_) ?_
        · skip
          go_simp
          refine (pmodel P A c B d _).mono ?_
          rintro e ww3 ⟨rfl, hb2⟩
          refine hK.out _ _ (hst.call hb2) (fun hh1 => ?_)
          clear hK K
          refine wpAnyH_ready (rs := [7]) (by kernel_rfl) (by simp) ?_
          refine AllReadyH.cons (o := { dst := some 82, op := Op.call { callee := Callee.value (Operand.func 27), args := #[Operand.tmp 80, Operand.tmp 81], argTypes := #[46, 46] }, type := 4, pos := "law.go:110", after := #[{ on := 5, ground := Ground.data }, { on := 6, ground := Ground.data }, { on := 5, ground := Ground.chain }, { on := 3, ground := Ground.guard }], guard := some (3, true) }) rfl (fun K hK => ?_) ?_
          · skip
            go_simp
            refine (psame P _ (HA.out.below hh1.below) (HBd.out.below hh1.below) (HA'.out.below hh1.below) (HB'.out.below hh1.below)).mono ?_
            rintro e ww7 ⟨rfl, hb6⟩
            refine hK.out _ _ (hh1.call hb6) (fun hh5 => ?_)
            clear hK K
            refine wpAnyH_take (i := 8) (oi := { dst := some 83, op := Op.pick (Operand.tmp 78) (Operand.tmp 82) (Operand.const (Value.bool false)), type := 4, pos := "law.go:110", after := #[{ on := 3, ground := Ground.data }, { on := 7, ground := Ground.data }], guard := none }) (v := .bool true) rfl (by kernel_rfl) (by kernel_rfl) (by kernel_rfl) (fun _ _ _ h => h) (Or.inl ⟨by rfl, fun w' _ => by rfl⟩) hh5 ?_
            simp only [Act.put, List.setIfInBounds_toArray, List.set_cons_zero, List.set_cons_succ]
            refine wpAnyH_take (i := 9) (oi := { dst := some 6, op := Op.assign (Operand.tmp 83), type := 4, pos := "law.go:110", after := #[{ on := 8, ground := Ground.data }, { on := 7, ground := Ground.chain }, { on := 0, ground := Ground.phase }, { on := 1, ground := Ground.phase }, { on := 2, ground := Ground.phase }, { on := 3, ground := Ground.phase }, { on := 4, ground := Ground.phase }, { on := 5, ground := Ground.phase }, { on := 6, ground := Ground.phase }, { on := 7, ground := Ground.phase }, { on := 8, ground := Ground.phase }], guard := none }) (v := .bool true) rfl (by kernel_rfl) (by kernel_rfl) (by kernel_rfl) (fun _ _ _ h => h) (Or.inl ⟨by rfl, fun w' _ => by rfl⟩) hh5 ?_
            simp only [Act.put, List.setIfInBounds_toArray, List.set_cons_zero, List.set_cons_succ]
            refine wpAnyH_done (by kernel_rfl) ?_ _
            have HZ := Lib.hid hh5
            go_wp2_with fail
            go_ret
            exact ⟨rfl, HB5.out.trans (HZ.out.below.mono HB5.out.size)⟩
          exact AllReadyH.nil
        exact AllReadyH.nil
end Go.Proofs.Ytkcjgkfgjbhfnaa
