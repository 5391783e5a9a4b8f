import Derived.Test.YtkcjgkfgjbhfnaaWirK
import Derived.Test.YtkcjgkfgjbhfnaaWirT
set_option linter.unusedVariables false
set_option linter.unusedSimpArgs false
namespace Go.Proofs.Ytkcjgkfgjbhfnaa
open Go.RowKit Go.Proofs.YtkcjgkfgjbhfnaaW.PrintWords Go.Proofs.YtkcjgkfgjbhfnaaW.PrintLast Go.Proofs.YtkcjgkfgjbhfnaaW.PrintMore
attribute [local go_sem ↓] Go.wp_at_zero Go.wp_at_succ

theorem prget (A : Option Addr) (c : Nat) (l : List Int) (w : World) (h : Rd w A c l) (hl : l.length ≤ 100000) : Calls Try.prog 26 #[.slice A l.length c] w
    fun e w2 => ∃ A' c' B' d', e = .returned (.tuple #[.agg (pkc (getP l) A' c' B' d'), .int .i64 (errn l)]) ∧ Rd w2 A' c' (getP l).mac ∧ Rd w2 B' d' (getP l).body ∧ Below w.heap.size w w2 := rget_any A c l w h hl
theorem psame (P : Pk) {A B A' B' : Option Addr} {c d c' d' : Nat} (w : World) (hA : Rd w A c P.mac) (hB : Rd w B d P.body) (hA' : Rd w A' c' P.mac) (hB' : Rd w B' d' P.body) : Calls Try.prog 27 #[.agg (pkc P A c B d), .agg (pkc P A' c' B' d')] w fun e w' => e = .returned (.bool true) ∧ Below w.heap.size w w' := same_any P w hA hB hA' hB'
set_option maxHeartbeats 4000000 in
set_option maxRecDepth 100000 in
theorem gets_walk (w : World) (A0 : Option Addr) (c0 : Nat) (l0 : List Int)
    (hC0 : Kd.C (Kd.int .u8) w A0 l0.length l0) (hc0 : l0.length ≤ c0) (hy0 : l0.length * 1 ≤ 140737488351232) (hw0 : ∀ x ∈ l0, 0 ≤ x ∧ x ≤ 255) :
    Calls Try.prog 8 #[.slice A0 l0.length c0] w fun e w' => e = .returned (.bool true) ∧ Below w.heap.size w w' := by
  have HR : Hid (Rd w A0 c0 l0) := ⟨hC0, hc0, hw0⟩
  clear hC0 hw0 hy0
  by_cases hl : 3000 < l0.length
  · have i0 : (3000 : Int) < (l0.length : Int) := by omega
    go_enter Try.func8, Try.ntmps8
    go_wp2_with fail
    with_reducible refine (awake_any _).mono ?_
    rintro e w1 ⟨rfl, hb⟩
    have HB := Lib.hid hb
    clear hb
    go_wp2
    go_ret
    exact ⟨rfl, HB.out⟩
  · have i0 : (l0.length : Int) ≤ 3000 := by omega
    have HG : Hid (∀ w', Rd w' A0 c0 l0 → Calls Try.prog 25 #[.slice A0 l0.length c0] w' fun e w2 => ∃ A' c' B' d', e = .returned (.tuple #[.agg (pkc (getP l0) A' c' B' d'), .int .i64 (errn l0)]) ∧ OwnA w2 w'.heap.size (.slice A' (getP l0).mac.length c') (getP l0).mac ∧ OwnA w2 w'.heap.size (.slice B' (getP l0).body.length d') (getP l0).body ∧ Below w'.heap.size w' w2) := fun w' h => pget A0 c0 l0 w' h (by omega)
    have HF : Hid (∀ w', Rd w' A0 c0 l0 → Calls Try.prog 26 #[.slice A0 l0.length c0] w' fun e w2 => ∃ A' c' B' d', e = .returned (.tuple #[.agg (pkc (getP l0) A' c' B' d'), .int .i64 (errn l0)]) ∧ Rd w2 A' c' (getP l0).mac ∧ Rd w2 B' d' (getP l0).body ∧ Below w'.heap.size w' w2) := fun w' h => prget A0 c0 l0 w' h (by omega)
    obtain ⟨P, hP⟩ : ∃ P, getP l0 = P := ⟨_, rfl⟩
    obtain ⟨n, hn⟩ : ∃ n, errn l0 = n := ⟨_, rfl⟩
    obtain ⟨bm, bb⟩ := bytes_of HR.out.b hP
    rw [hP, hn] at HG HF
    have BM := Lib.hid bm
    have BBo := Lib.hid bb
    clear hP hn hl bm bb
    go_enter Try.func8, Try.ntmps8
    go_wp2_with fail
    with_reducible refine (awake_any _).mono ?_
    rintro e w1 ⟨rfl, hb⟩
    have HB := Lib.hid hb
    have HR1 := Lib.hid (HR.out.below hb)
    clear hb
    go_wp2_with fail
    with_reducible refine (HG.out _ HR1.out).mono ?_
    rintro e w2 ⟨A, c, B, d, rfl, hA, hB, hb⟩
    have HB2 := Lib.hid (HB.out.trans (hb.mono HB.out.size))
    have HR2 := Lib.hid (HR1.out.below hb)
    have HA := Lib.hid (hA.rd BM.out).2
    have HBd := Lib.hid (hB.rd BBo.out).2
    clear hA hB hb
    have hal := Lib.hid (heap_alloc_new w2 (.cells z46 45))
    go_upto_region 7 with (refine store45 rfl _ _ rfl w2.heap.size P A c B d rfl rfl hal.out ?_)
    go_cut [2, 4, 5, 6, 7] (fun s2 s4 s5 s6 s7 wx => ∃ A c B d A' c' B' d' b4 b6, s2 = .bool false ∧ s5 = .int .i64 n ∧ s7 = .int .i64 n ∧ s4 = .pointer (some ⟨b4, 0, none⟩) ∧ s6 = .pointer (some ⟨b6, 0, none⟩) ∧ wx.heap[b4]? = some (.cells (pkc P A c B d) 45 (0, 0)) ∧ wx.heap[b6]? = some (.cells (pkc P A' c' B' d') 46 (0, 0)) ∧ Rd wx A c P.mac ∧ Rd wx B d P.body ∧ Rd wx A' c' P.mac ∧ Rd wx B' d' P.body ∧ Below w.heap.size w wx)
    case first =>
      have hn := new_below w2 45 #[.int .i64 0, .int .u32 0, .int .u32 0, .int .i64 0, .int .i64 0, .int .i64 0, .slice none 0 0, .int .u64 0, .slice none 0 0] (pkc P A c B d)
      have H4 := Lib.hid (new_row w2 45 #[.int .i64 0, .int .u32 0, .int .u32 0, .int .i64 0, .int .i64 0, .int .i64 0, .slice none 0 0, .int .u64 0, .slice none 0 0] (pkc P A c B d))
      have HB3 := Lib.hid (HB2.out.trans (hn.mono HB2.out.size))
      have HR3 := Lib.hid (HR2.out.below hn)
      have HA3 := Lib.hid (HA.out.below hn)
      have HBd3 := Lib.hid (HBd.out.below hn)
      clear hn hal
      go_wp2_with fail
      with_reducible refine (HF.out _ HR3.out).mono ?_
      rintro e w4 ⟨A', c', B', d', rfl, hA, hB, hb⟩
      have H44 : Hid (w4.heap[w2.heap.size]? = some (.cells (pkc P A c B d) 45 (0, 0))) := (hb.block _ (blk_lt H4.out)).trans H4.out
      have HB4 := Lib.hid (HB3.out.trans (hb.mono HB3.out.size))
      have HA4 := Lib.hid (HA3.out.below hb)
      have HBd4 := Lib.hid (HBd3.out.below hb)
      have HA' := Lib.hid hA
      have HB' := Lib.hid hB
      clear hA hB hb
      have hal := Lib.hid (heap_alloc_new w4 (.cells z46 46))
      go_wp2_with (refine store46 rfl _ _ rfl w4.heap.size P A' c' B' d' rfl rfl hal.out ?_)
      go_meet
      have hn := new_below w4 46 #[.int .i64 0, .int .u32 0, .int .u32 0, .int .i64 0, .int .i64 0, .int .i64 0, .slice none 0 0, .int .u64 0, .slice none 0 0] (pkc P A' c' B' d')
      exact ⟨A, c, B, d, A', c', B', d', w2.heap.size, w4.heap.size, rfl, rfl, rfl, rfl, rfl, (hn.block _ (blk_lt H44.out)).trans H44.out, new_row w4 46 _ _, HA4.out.below hn, HBd4.out.below hn, HA'.out.below hn, HB'.out.below hn, HB4.out.trans (hn.mono HB4.out.size)⟩
    case rest =>
      clear HB HR1 HB2 HR2 HA HBd hal HF HG HR
      obtain ⟨A, c, B, d, A', c', B', d', b4, b6, rfl, rfl, rfl, rfl, rfl, h4, h6, hA, hB, hA', hB', hBel⟩ := hcut
      have HBEL := Lib.hid hBel
      have HA := Lib.hid hA
      have HBd := Lib.hid hB
      have HA' := Lib.hid hA'
      have HB' := Lib.hid hB'
      have HS : Hid (S2 wc b4 b6 (pkc P A c B d) (pkc P A' c' B' d') wc) := ⟨Below.refl _ _, h4, h6⟩
      clear hBel h4 h6 hA hB hA' hB'
      go_upto_region 8 with fail
      refine wp_region_held_drew (S := S2 wc b4 b6 (pkc P A c B d) (pkc P A' c' B' d')) (by kernel_rfl) HS.out.drew (fun hst => ?_)
      refine wpAnyH_take (i := 0) (oi := { dst := some 24, op := Op.move (Operand.tmp 5), type := 28, pos := "law.go:56", after := #[], guard := none }) (v := .int .i64 n) rfl (by kernel_rfl) (by kernel_rfl) (by kernel_rfl) (fun _ _ _ h => h) (Or.inl ⟨by rfl, fun w' _ => by rfl⟩) hst ?_
      simp only [Act.put, List.setIfInBounds_toArray, List.set_cons_zero, List.set_cons_succ]
      refine wpAnyH_take (i := 1) (oi := { dst := some 25, op := Op.move (Operand.tmp 7), type := 28, pos := "law.go:56", after := #[], guard := none }) (v := .int .i64 n) rfl (by kernel_rfl) (by kernel_rfl) (by kernel_rfl) (fun _ _ _ h => h) (Or.inl ⟨by rfl, fun w' _ => by rfl⟩) hst ?_
      simp only [Act.put, List.setIfInBounds_toArray, List.set_cons_zero, List.set_cons_succ]
      refine wpAnyH_take (i := 2) (oi := { dst := some 26, op := Op.binOp BinOp.eql 28 (Operand.tmp 24) (Operand.tmp 25) 28, type := 4, pos := "law.go:56", after := #[{ on := 0, ground := Ground.data }, { on := 1, ground := Ground.data }], guard := none }) (v := .bool true) rfl (by kernel_rfl) (by kernel_rfl) (by kernel_rfl) (fun _ _ _ h => h) (Or.inl ⟨by rfl, fun w' _ => eq28 rfl rfl⟩) hst ?_
      simp only [Act.put, List.setIfInBounds_toArray, List.set_cons_zero, List.set_cons_succ]
      refine wpAnyH_take (i := 3) (oi := { dst := some 27, op := Op.move (Operand.tmp 26), type := 4, pos := "law.go:56", after := #[{ on := 2, ground := Ground.data }], guard := none }) (v := .bool true) rfl (by kernel_rfl) (by kernel_rfl) (by kernel_rfl) (fun _ _ _ h => h) (Or.inl ⟨by rfl, fun w' _ => by rfl⟩) hst ?_
      simp only [Act.put, List.setIfInBounds_toArray, List.set_cons_zero, List.set_cons_succ]
      refine wpAnyH_take (i := 4) (oi := { dst := some 28, op := Op.load 45 (Operand.tmp 4), type := 45, pos := "law.go:56", after := #[{ on := 3, ground := Ground.guard }], guard := some (3, true) }) (v := .agg (pkc P A c B d)) rfl (by kernel_rfl) (by kernel_rfl) (by kernel_rfl) (fun _ _ _ h => h) (yl45 (by rfl) _ rfl rfl (isz45 P A c B d)) hst ?_
      simp only [Act.put, List.setIfInBounds_toArray, List.set_cons_zero, List.set_cons_succ]
      refine wpAnyH_take (i := 6) (oi := { dst := some 30, op := Op.load 46 (Operand.tmp 6), type := 46, pos := "law.go:56", after := #[{ on := 3, ground := Ground.guard }], guard := some (3, true) }) (v := .agg (pkc P A' c' B' d')) rfl (by kernel_rfl) (by kernel_rfl) (by kernel_rfl) (fun _ _ _ h => h) (yl46 (by rfl) _ rfl rfl (isz46 P A' c' B' d')) hst ?_
      simp only [Act.put, List.setIfInBounds_toArray, List.set_cons_zero, List.set_cons_succ]
      refine wpAnyH_ready (rs := [5]) (by kernel_rfl) (by simp) ?_
      refine AllReadyH.cons (o := { dst := some 29, op := Op.call { callee := Callee.value (Operand.func 19), args := #[Operand.tmp 28], argTypes := #[45] }, type := 46, pos := "law.go:56", after := #[{ on := 4, ground := Ground.data }, { on := 3, ground := Ground.chain }, { on := 3, ground := Ground.guard }], guard := some (3, true) }) rfl (fun K hK => ?_) ?_
      · skip
        go_simp
        refine (pmodel P A c B d _).mono ?_
        rintro e ww3 ⟨rfl, hb2⟩
        refine hK.out _ _ (hst.call hb2) (fun hh1 => ?_)
        clear hK K
        refine wpAnyH_ready (rs := [7]) (by kernel_rfl) (by simp) ?_
        refine AllReadyH.cons (o := { dst := some 31, op := Op.call { callee := Callee.value (Operand.func 27), args := #[Operand.tmp 29, Operand.tmp 30], argTypes := #[46, 46] }, type := 4, pos := "law.go:56", after := #[{ on := 5, ground := Ground.data }, { on := 6, ground := Ground.data }, { on := 5, ground := Ground.chain }, { on := 3, ground := Ground.guard }], guard := some (3, true) }) rfl (fun K hK => ?_) ?_
        · skip
          go_simp
          refine (psame P _ (HA.out.below hh1.below) (HBd.out.below hh1.below) (HA'.out.below hh1.below) (HB'.out.below hh1.below)).mono ?_
          rintro e ww6 ⟨rfl, hb5⟩
          refine hK.out _ _ (hh1.call hb5) (fun hh4 => ?_)
          clear hK K
          refine wpAnyH_take (i := 8) (oi := { dst := some 32, op := Op.pick (Operand.tmp 27) (Operand.tmp 31) (Operand.const (Value.bool false)), type := 4, pos := "law.go:56", after := #[{ on := 3, ground := Ground.data }, { on := 7, ground := Ground.data }], guard := none }) (v := .bool true) rfl (by kernel_rfl) (by kernel_rfl) (by kernel_rfl) (fun _ _ _ h => h) (Or.inl ⟨by rfl, fun w' _ => by rfl⟩) hh4 ?_
          simp only [Act.put, List.setIfInBounds_toArray, List.set_cons_zero, List.set_cons_succ]
          refine wpAnyH_take (i := 9) (oi := { dst := some 2, op := Op.assign (Operand.tmp 32), type := 4, pos := "law.go:56", after := #[{ on := 8, ground := Ground.data }, { on := 7, ground := Ground.chain }, { on := 0, ground := Ground.phase }, { on := 1, ground := Ground.phase }, { on := 2, ground := Ground.phase }, { on := 3, ground := Ground.phase }, { on := 4, ground := Ground.phase }, { on := 5, ground := Ground.phase }, { on := 6, ground := Ground.phase }, { on := 7, ground := Ground.phase }, { on := 8, ground := Ground.phase }], guard := none }) (v := .bool true) rfl (by kernel_rfl) (by kernel_rfl) (by kernel_rfl) (fun _ _ _ h => h) (Or.inl ⟨by rfl, fun w' _ => by rfl⟩) hh4 ?_
          simp only [Act.put, List.setIfInBounds_toArray, List.set_cons_zero, List.set_cons_succ]
          refine wpAnyH_done (by kernel_rfl) ?_ _
          go_wp2_with fail
          go_ret
          exact ⟨rfl, HBEL.out.trans (hh4.below.mono HBEL.out.size)⟩
        exact AllReadyH.nil
      exact AllReadyH.nil
end Go.Proofs.Ytkcjgkfgjbhfnaa
