import Derived.Test.YtkcjgkfgjbhfnaaWirK
import Derived.Test.YtkcjgkfgjbhfnaaWirS
set_option linter.unusedVariables false
set_option linter.unusedSimpArgs false
namespace Go.Proofs.Ytkcjgkfgjbhfnaa
open Go.RowKit Go.Proofs.YtkcjgkfgjbhfnaaW.PrintWords Go.Proofs.YtkcjgkfgjbhfnaaW.PrintLast Go.Proofs.YtkcjgkfgjbhfnaaW.PrintMore
attribute [local go_sem ↓] Go.wp_at_zero Go.wp_at_succ
theorem psign (P : Pk) (h : P.ok) {A B : Option Addr} {c d : Nat} (hm : P.mac.length ≤ 5000) (hb : P.body.length ≤ 5000) (w : World) (hA : Rd w A c P.mac) (hB : Rd w B d P.body) : Calls Try.prog 22 #[.agg (pkc P A c B d)] w fun e w' => ∃ D f, e = .returned (.slice D (signL P).length f) ∧ Rd w' D f (signL P) ∧ Below w.heap.size w w' := by
  refine (sign_any P h hm hb w hA hB).mono ?_
  rintro e w' ⟨v, rfl, ho, hbl⟩
  obtain ⟨D, f, rfl, hr⟩ := ho.rd (signL_bytes P h hB.b)
  exact ⟨D, f, rfl, hr, hbl⟩
theorem prsign (P : Pk) (h : P.ok) {A B : Option Addr} {c d : Nat} (hm : P.mac.length ≤ 5000) (hb : P.body.length ≤ 5000) (w : World) (hA : Rd w A c P.mac) (hB : Rd w B d P.body) : Calls Try.prog 23 #[.agg (pkc P A c B d)] w fun e w' => ∃ D f, e = .returned (.slice D (signL P).length f) ∧ Rd w' D f (signL P) ∧ Below w.heap.size w w' := by
  refine (rsign_any P h hm hb w hA hB).mono ?_
  rintro e w' ⟨v, rfl, ho, hbl⟩
  obtain ⟨D, f, rfl, hr⟩ := ho.rd (signL_bytes P h hB.b)
  exact ⟨D, f, rfl, hr, hbl⟩
theorem prput (P : Pk) (h : P.ok) (hk : mayB P = true) {A B : Option Addr} {c d : Nat} (hm : P.mac.length ≤ 5000) (hb : P.body.length ≤ 5000) (w : World) (hA : Rd w A c P.mac) (hB : Rd w B d P.body) : Calls Try.prog 24 #[.agg (pkc P A c B d)] w fun e w' => ∃ D f, e = .returned (.slice D (putL P).length f) ∧ Rd w' D f (putL P) ∧ Below w.heap.size w w' := by
  refine (rput_any P h hm hb w hA hB hk).mono ?_
  rintro e w' ⟨v, rfl, ho, hbl⟩
  obtain ⟨D, f, rfl, hr⟩ := ho.rd (putL_bytes P h hA.b hB.b)
  exact ⟨D, f, rfl, hr, hbl⟩
theorem pput_yes (P : Pk) (h : P.ok) (hk : mayB P = true) {A B : Option Addr} {c d : Nat} (hm : P.mac.length ≤ 5000) (hb : P.body.length ≤ 5000) (w : World) (hA : Rd w A c P.mac) (hB : Rd w B d P.body) : Calls Try.prog 20 #[.agg (pkc P A c B d)] w fun e w' => ∃ D f, e = .returned (.tuple #[.slice D (putL P).length f, .int .i64 0]) ∧ Rd w' D f (putL P) ∧ Below w.heap.size w w' := by
  have := put_any P h hm hb w hA hB
  rw [hk, if_pos rfl, if_pos rfl] at this
  refine this.mono ?_
  rintro e w' ⟨v, rfl, ho, hbl⟩
  obtain ⟨D, f, rfl, hr⟩ := ho.rd (putL_bytes P h hA.b hB.b)
  exact ⟨D, f, rfl, hr, hbl⟩
theorem pput_no (P : Pk) (h : P.ok) (hk : mayB P = false) {A B : Option Addr} {c d : Nat} (hm : P.mac.length ≤ 5000) (hb : P.body.length ≤ 5000) (w : World) (hA : Rd w A c P.mac) (hB : Rd w B d P.body) : Calls Try.prog 20 #[.agg (pkc P A c B d)] w fun e w' => ∃ D f, e = .returned (.tuple #[.slice D 0 f, .int .i64 1]) ∧ Rd w' D f [] ∧ Below w.heap.size w w' := by
  have := put_any P h hm hb w hA hB
  rw [hk, if_neg (by simp), if_neg (by simp)] at this
  refine this.mono ?_
  rintro e w' ⟨v, rfl, ho, hbl⟩
  obtain ⟨D, f, rfl, hr⟩ := ho.rd (fun x hx => by cases hx)
  exact ⟨D, f, rfl, hr, hbl⟩
set_option maxHeartbeats 4000000 in
set_option maxRecDepth 100000 in
theorem puts_no (w : World) (P : Pk) (hP : P.ok) {A B : Option Addr} {c d : Nat} (hA : Rd w A c P.mac) (hB : Rd w B d P.body) (hmb : mayB P = false) (h1 : P.body.length ≤ 3000) (h2 : P.mac.length ≤ 100) :
    Calls Try.prog 7 #[.agg (pkc P A c B d)] w fun e w' => e = .returned (.bool true) ∧ Below w.heap.size w w' := by
  have HA := Lib.hid hA
  have HBd := Lib.hid hB
  have HMB := Lib.hid hmb
  have i0 : (P.body.length : Int) ≤ 3000 := by omega
  have i1 : (P.mac.length : Int) ≤ 100 := by omega
  have KP : Hid (∀ w', Rd w' A c P.mac → Rd w' B d P.body → Calls Try.prog 20 #[.agg (pkc P A c B d)] w' fun e w2 => ∃ D f, e = .returned (.tuple #[.slice D 0 f, .int .i64 1]) ∧ Rd w2 D f ([]) ∧ Below w'.heap.size w' w2) := fun w' ha hb => pput_no P hP hmb (by omega) (by omega) w' ha hb
  have KM : Hid (∀ w', Rd w' A c P.mac → Rd w' B d P.body → Calls Try.prog 21 #[.agg (pkc P A c B d)] w' fun e w2 => e = .returned (.bool false) ∧ Below w'.heap.size w' w2) := fun w' ha hb => by have := rmay_any P hP w' ha hb; rw [hmb] at this; exact this
  clear hA hB hmb
  go_enter Try.func7, Try.ntmps7
  go_wp2_with fail
  with_reducible refine (awake_any _).mono ?_
  rintro e w1 ⟨rfl, hb⟩
  have H1 : Hid (w1.heap[w.heap.size]? = some (.cells (pkc P A c B d) 45 (0, 0))) := (hb.block _ (by simp)).trans (heap_alloc_new w _)
  have HB1 : Hid (Below w.heap.size w w1) := Below.trans ((Below.refl _ _).alloc (Nat.le_refl _) _) (hb.mono (by simp))
  have q8 : w1.cell? ⟨w.heap.size, 8, none⟩ = some (.slice B P.body.length d) := (blk_cell H1.out 8).trans rfl
  have q6 : w1.cell? ⟨w.heap.size, 6, none⟩ = some (.slice A P.mac.length c) := (blk_cell H1.out 6).trans rfl
  clear hb
  go_wp2_with (refine load45 rfl _ rfl w.heap.size P A c B d rfl H1.out ?_)
  with_reducible refine (pmodel P A c B d _).mono ?_
  rintro e w2 ⟨rfl, hb⟩
  have H2 : Hid (w2.heap[w.heap.size]? = some (.cells (pkc P A c B d) 45 (0, 0))) := (hb.block _ (blk_lt H1.out)).trans H1.out
  have HB2 := Lib.hid (HB1.out.trans (hb.mono HB1.out.size))
  have hal := Lib.hid (heap_alloc_new w2 (.cells z46 46))
  have hn := new_below w2 46 #[.int .i64 0, .int .u32 0, .int .u32 0, .int .i64 0, .int .i64 0, .int .i64 0, .slice none 0 0, .int .u64 0, .slice none 0 0] (pkc P A c B d)
  have H45n := Lib.hid ((hn.block _ (blk_lt H2.out)).trans H2.out)
  have H46n := Lib.hid (new_row w2 46 #[.int .i64 0, .int .u32 0, .int .u32 0, .int .i64 0, .int .i64 0, .int .i64 0, .slice none 0 0, .int .u64 0, .slice none 0 0] (pkc P A c B d))
  have HBn := Lib.hid (HB2.out.trans (hn.mono HB2.out.size))
  clear hb hn q6 q8 HB1 H1
  go_wp2_with (first | (refine store46 rfl _ _ rfl w2.heap.size P A c B d rfl rfl hal.out ?_) | (refine load45 rfl _ rfl w.heap.size P A c B d rfl H45n.out ?_))
  with_reducible refine (KP.out _ (HA.out.below HBn.out) (HBd.out.below HBn.out)).mono ?_
  rintro e w4 ⟨D, f, rfl, hD, hb⟩
  have H454 : Hid (w4.heap[w.heap.size]? = some (.cells (pkc P A c B d) 45 (0, 0))) := (hb.block _ (blk_lt H45n.out)).trans H45n.out
  have H464 : Hid (w4.heap[w2.heap.size]? = some (.cells (pkc P A c B d) 46 (0, 0))) := (hb.block _ (blk_lt H46n.out)).trans H46n.out
  have HB4 := Lib.hid (HBn.out.trans (hb.mono HBn.out.size))
  have HD := Lib.hid hD
  clear hb hD H45n H46n HBn hal
  go_wp2_with (refine load46 rfl _ rfl w2.heap.size P A c B d rfl H464.out ?_)
  with_reducible refine (KM.out _ (HA.out.below HB4.out) (HBd.out.below HB4.out)).mono ?_
  rintro e w5 ⟨rfl, hb⟩
  have HB5 := Lib.hid (HB4.out.trans (hb.mono HB4.out.size))
  have HA5 := Lib.hid (HA.out.below HB5.out)
  have HBd5 := Lib.hid (HBd.out.below HB5.out)
  have HD5 := Lib.hid (HD.out.below hb)
  have HS : Hid (S2 w5 w.heap.size w2.heap.size (pkc P A c B d) (pkc P A c B d) w5) := ⟨Below.refl _ _, (hb.block _ (blk_lt H454.out)).trans H454.out, (hb.block _ (blk_lt H464.out)).trans H464.out⟩
  clear hb HD H454 H464 HB4 HA HBd KP KM
  go_upto_region 9 with fail
  refine wp_region_held_drew (S := S2 w5 w.heap.size w2.heap.size (pkc P A c B d) (pkc P A c B d)) (by kernel_rfl) HS.out.drew (fun hst => ?_)
  have HD6 := Lib.hid HD5.out.drew
  refine wpAnyH_take (i := 0) (oi := { dst := some 30, op := Op.load 45 (Operand.tmp 1), type := 45, pos := "law.go:36", after := #[], guard := none }) (v := .agg (pkc P A c B d)) rfl (by kernel_rfl) (by kernel_rfl) (by kernel_rfl) (fun _ _ _ h => h) (yl45 (by rfl) _ rfl rfl (isz45 P A c B d)) hst ?_
  simp only [Act.put, List.setIfInBounds_toArray, List.set_cons_zero, List.set_cons_succ]
  refine wpAnyH_take (i := 3) (oi := { dst := some 33, op := Op.load 46 (Operand.tmp 4), type := 46, pos := "law.go:36", after := #[], guard := none }) (v := .agg (pkc P A c B d)) rfl (by kernel_rfl) (by kernel_rfl) (by kernel_rfl) (fun _ _ _ h => h) (yl46 (by rfl) _ rfl rfl (isz46 P A c B d)) hst ?_
  simp only [Act.put, List.setIfInBounds_toArray, List.set_cons_zero, List.set_cons_succ]
  refine wpAnyH_ready (rs := [1]) (by kernel_rfl) (by simp) ?_
  refine AllReadyH.cons (o := { dst := some 31, op := Op.call { callee := Callee.value (Operand.func 22), args := #[Operand.tmp 30], argTypes := #[45] }, type := 37, pos := "law.go:36", after := #[{ on := 0, ground := Ground.data }], guard := none }) rfl (fun K hK => ?_) ?_
  · skip
    go_simp
    refine (psign P hP (by omega) (by omega) _ (HA5.out.below hst.below) (HBd5.out.below hst.below)).mono ?_
    rintro e ww3 ⟨An4, cn4, rfl, hrn4, hb2⟩
    have hv5 := Lib.hid (HD6.out.below hb2)
    have HSn4 := Lib.hid hrn4
    refine hK.out _ _ (hst.call hb2) (fun hh1 => ?_)
    clear hK K
    refine wpAnyH_ready (rs := [2, 4]) (by kernel_rfl) (by simp) ?_
    refine AllReadyH.cons (o := { dst := some 32, op := Op.convert 37 9 (Operand.tmp 31), type := 9, pos := "law.go:36", after := #[{ on := 1, ground := Ground.data }], guard := none }) rfl (fun K hK => ?_) ?_
    · skip
      refine step_conv rfl _ rfl An4 ((signL P).length) cn4 (signL P) rfl HSn4.out.r ?_
      refine hK.out _ _ hh1 (fun hh6 => ?_)
      clear hK K
      refine wpAnyH_ready (rs := [4]) (by kernel_rfl) (by simp) ?_
      refine AllReadyH.cons (o := { dst := some 34, op := Op.call { callee := Callee.value (Operand.func 23), args := #[Operand.tmp 33], argTypes := #[46] }, type := 37, pos := "law.go:36", after := #[{ on := 3, ground := Ground.data }, { on := 1, ground := Ground.chain }], guard := none }) rfl (fun K hK => ?_) ?_
      · skip
        go_simp
        refine (prsign P hP (by omega) (by omega) _ (HA5.out.below hh6.below) (HBd5.out.below hh6.below)).mono ?_
        rintro e ww9 ⟨An10, cn10, rfl, hrn10, hb8⟩
        have hv11 := Lib.hid (hv5.out.below hb8)
        have hv12 := Lib.hid (HSn4.out.below hb8)
        have HRn10 := Lib.hid hrn10
        refine hK.out _ _ (hh6.call hb8) (fun hh7 => ?_)
        clear hK K
        refine wpAnyH_ready (rs := [5]) (by kernel_rfl) (by simp) ?_
        refine AllReadyH.cons (o := { dst := some 35, op := Op.convert 37 9 (Operand.tmp 34), type := 9, pos := "law.go:36", after := #[{ on := 4, ground := Ground.data }], guard := none }) rfl (fun K hK => ?_) ?_
        · skip
          refine step_conv rfl _ rfl An10 ((signL P).length) cn10 (signL P) rfl HRn10.out.r ?_
          refine hK.out _ _ hh7 (fun hh13 => ?_)
          clear hK K
          refine wpAnyH_take (i := 6) (oi := { dst := some 36, op := Op.binOp BinOp.neq 9 (Operand.tmp 32) (Operand.tmp 35) 9, type := 4, pos := "law.go:36", after := #[{ on := 2, ground := Ground.data }, { on := 5, ground := Ground.data }], guard := none }) (v := .bool false) rfl (by kernel_rfl) (by kernel_rfl) (by kernel_rfl) (fun _ _ _ h => h) (Or.inl ⟨by rfl, fun w' _ => neqS rfl rfl⟩) hh13 ?_
          simp only [Act.put, List.setIfInBounds_toArray, List.set_cons_zero, List.set_cons_succ]
          refine wpAnyH_done (by kernel_rfl) ?_ _
          have HZ := Lib.hid hh13
          go_wp2_with fail
          go_ret
          exact ⟨rfl, HB5.out.trans (HZ.out.below.mono HB5.out.size)⟩
        exact AllReadyH.nil
      exact AllReadyH.nil
    refine AllReadyH.cons (o := { dst := some 34, op := Op.call { callee := Callee.value (Operand.func 23), args := #[Operand.tmp 33], argTypes := #[46] }, type := 37, pos := "law.go:36", after := #[{ on := 3, ground := Ground.data }, { on := 1, ground := Ground.chain }], guard := none }) rfl (fun K hK => ?_) ?_
    · skip
      go_simp
      refine (prsign P hP (by omega) (by omega) _ (HA5.out.below hh1.below) (HBd5.out.below hh1.below)).mono ?_
      rintro e ww16 ⟨An17, cn17, rfl, hrn17, hb15⟩
      have hv18 := Lib.hid (hv5.out.below hb15)
      have hv19 := Lib.hid (HSn4.out.below hb15)
      have HRn17 := Lib.hid hrn17
      refine hK.out _ _ (hh1.call hb15) (fun hh14 => ?_)
      clear hK K
      refine wpAnyH_ready (rs := [2, 5]) (by kernel_rfl) (by simp) ?_
      refine AllReadyH.cons (o := { dst := some 32, op := Op.convert 37 9 (Operand.tmp 31), type := 9, pos := "law.go:36", after := #[{ on := 1, ground := Ground.data }], guard := none }) rfl (fun K hK => ?_) ?_
      · skip
        refine step_conv rfl _ rfl An4 ((signL P).length) cn4 (signL P) rfl hv19.out.r ?_
        refine hK.out _ _ hh14 (fun hh20 => ?_)
        clear hK K
        refine wpAnyH_ready (rs := [5]) (by kernel_rfl) (by simp) ?_
        refine AllReadyH.cons (o := { dst := some 35, op := Op.convert 37 9 (Operand.tmp 34), type := 9, pos := "law.go:36", after := #[{ on := 4, ground := Ground.data }], guard := none }) rfl (fun K hK => ?_) ?_
        · skip
          refine step_conv rfl _ rfl An17 ((signL P).length) cn17 (signL P) rfl HRn17.out.r ?_
          refine hK.out _ _ hh20 (fun hh21 => ?_)
          clear hK K
          refine wpAnyH_take (i := 6) (oi := { dst := some 36, op := Op.binOp BinOp.neq 9 (Operand.tmp 32) (Operand.tmp 35) 9, type := 4, pos := "law.go:36", after := #[{ on := 2, ground := Ground.data }, { on := 5, ground := Ground.data }], guard := none }) (v := .bool false) rfl (by kernel_rfl) (by kernel_rfl) (by kernel_rfl) (fun _ _ _ h => h) (Or.inl ⟨by rfl, fun w' _ => neqS rfl rfl⟩) hh21 ?_
          simp only [Act.put, List.setIfInBounds_toArray, List.set_cons_zero, List.set_cons_succ]
          refine wpAnyH_done (by kernel_rfl) ?_ _
          have HZ := Lib.hid hh21
          go_wp2_with fail
          go_ret
          exact ⟨rfl, HB5.out.trans (HZ.out.below.mono HB5.out.size)⟩
        exact AllReadyH.nil
      refine AllReadyH.cons (o := { dst := some 35, op := Op.convert 37 9 (Operand.tmp 34), type := 9, pos := "law.go:36", after := #[{ on := 4, ground := Ground.data }], guard := none }) rfl (fun K hK => ?_) ?_
      · skip
        refine step_conv rfl _ rfl An17 ((signL P).length) cn17 (signL P) rfl HRn17.out.r ?_
        refine hK.out _ _ hh14 (fun hh22 => ?_)
        clear hK K
        refine wpAnyH_ready (rs := [2]) (by kernel_rfl) (by simp) ?_
        refine AllReadyH.cons (o := { dst := some 32, op := Op.convert 37 9 (Operand.tmp 31), type := 9, pos := "law.go:36", after := #[{ on := 1, ground := Ground.data }], guard := none }) rfl (fun K hK => ?_) ?_
        · skip
          refine step_conv rfl _ rfl An4 ((signL P).length) cn4 (signL P) rfl hv19.out.r ?_
          refine hK.out _ _ hh22 (fun hh23 => ?_)
          clear hK K
          refine wpAnyH_take (i := 6) (oi := { dst := some 36, op := Op.binOp BinOp.neq 9 (Operand.tmp 32) (Operand.tmp 35) 9, type := 4, pos := "law.go:36", after := #[{ on := 2, ground := Ground.data }, { on := 5, ground := Ground.data }], guard := none }) (v := .bool false) rfl (by kernel_rfl) (by kernel_rfl) (by kernel_rfl) (fun _ _ _ h => h) (Or.inl ⟨by rfl, fun w' _ => neqS rfl rfl⟩) hh23 ?_
          simp only [Act.put, List.setIfInBounds_toArray, List.set_cons_zero, List.set_cons_succ]
          refine wpAnyH_done (by kernel_rfl) ?_ _
          have HZ := Lib.hid hh23
          go_wp2_with fail
          go_ret
          exact ⟨rfl, HB5.out.trans (HZ.out.below.mono HB5.out.size)⟩
        exact AllReadyH.nil
      exact AllReadyH.nil
    exact AllReadyH.nil
  exact AllReadyH.nil
set_option maxHeartbeats 4000000 in
set_option maxRecDepth 100000 in
theorem puts_yes (w : World) (P : Pk) (hP : P.ok) {A B : Option Addr} {c d : Nat} (hA : Rd w A c P.mac) (hB : Rd w B d P.body) (hmb : mayB P = true) (h1 : P.body.length ≤ 3000) (h2 : P.mac.length ≤ 100) :
    Calls Try.prog 7 #[.agg (pkc P A c B d)] w fun e w' => e = .returned (.bool true) ∧ Below w.heap.size w w' := by
  have HA := Lib.hid hA
  have HBd := Lib.hid hB
  have HMB := Lib.hid hmb
  have i0 : (P.body.length : Int) ≤ 3000 := by omega
  have i1 : (P.mac.length : Int) ≤ 100 := by omega
  have KP : Hid (∀ w', Rd w' A c P.mac → Rd w' B d P.body → Calls Try.prog 20 #[.agg (pkc P A c B d)] w' fun e w2 => ∃ D f, e = .returned (.tuple #[.slice D (putL P).length f, .int .i64 0]) ∧ Rd w2 D f (putL P) ∧ Below w'.heap.size w' w2) := fun w' ha hb => pput_yes P hP hmb (by omega) (by omega) w' ha hb
  have KM : Hid (∀ w', Rd w' A c P.mac → Rd w' B d P.body → Calls Try.prog 21 #[.agg (pkc P A c B d)] w' fun e w2 => e = .returned (.bool true) ∧ Below w'.heap.size w' w2) := fun w' ha hb => by have := rmay_any P hP w' ha hb; rw [hmb] at this; exact this
  clear hA hB hmb
  go_enter Try.func7, Try.ntmps7
  go_wp2_with fail
  with_reducible refine (awake_any _).mono ?_
  rintro e w1 ⟨rfl, hb⟩
  have H1 : Hid (w1.heap[w.heap.size]? = some (.cells (pkc P A c B d) 45 (0, 0))) := (hb.block _ (by simp)).trans (heap_alloc_new w _)
  have HB1 : Hid (Below w.heap.size w w1) := Below.trans ((Below.refl _ _).alloc (Nat.le_refl _) _) (hb.mono (by simp))
  have q8 : w1.cell? ⟨w.heap.size, 8, none⟩ = some (.slice B P.body.length d) := (blk_cell H1.out 8).trans rfl
  have q6 : w1.cell? ⟨w.heap.size, 6, none⟩ = some (.slice A P.mac.length c) := (blk_cell H1.out 6).trans rfl
  clear hb
  go_wp2_with (refine load45 rfl _ rfl w.heap.size P A c B d rfl H1.out ?_)
  with_reducible refine (pmodel P A c B d _).mono ?_
  rintro e w2 ⟨rfl, hb⟩
  have H2 : Hid (w2.heap[w.heap.size]? = some (.cells (pkc P A c B d) 45 (0, 0))) := (hb.block _ (blk_lt H1.out)).trans H1.out
  have HB2 := Lib.hid (HB1.out.trans (hb.mono HB1.out.size))
  have hal := Lib.hid (heap_alloc_new w2 (.cells z46 46))
  have hn := new_below w2 46 #[.int .i64 0, .int .u32 0, .int .u32 0, .int .i64 0, .int .i64 0, .int .i64 0, .slice none 0 0, .int .u64 0, .slice none 0 0] (pkc P A c B d)
  have H45n := Lib.hid ((hn.block _ (blk_lt H2.out)).trans H2.out)
  have H46n := Lib.hid (new_row w2 46 #[.int .i64 0, .int .u32 0, .int .u32 0, .int .i64 0, .int .i64 0, .int .i64 0, .slice none 0 0, .int .u64 0, .slice none 0 0] (pkc P A c B d))
  have HBn := Lib.hid (HB2.out.trans (hn.mono HB2.out.size))
  clear hb hn q6 q8 HB1 H1
  go_wp2_with (first | (refine store46 rfl _ _ rfl w2.heap.size P A c B d rfl rfl hal.out ?_) | (refine load45 rfl _ rfl w.heap.size P A c B d rfl H45n.out ?_))
  with_reducible refine (KP.out _ (HA.out.below HBn.out) (HBd.out.below HBn.out)).mono ?_
  rintro e w4 ⟨D, f, rfl, hD, hb⟩
  have H454 : Hid (w4.heap[w.heap.size]? = some (.cells (pkc P A c B d) 45 (0, 0))) := (hb.block _ (blk_lt H45n.out)).trans H45n.out
  have H464 : Hid (w4.heap[w2.heap.size]? = some (.cells (pkc P A c B d) 46 (0, 0))) := (hb.block _ (blk_lt H46n.out)).trans H46n.out
  have HB4 := Lib.hid (HBn.out.trans (hb.mono HBn.out.size))
  have HD := Lib.hid hD
  clear hb hD H45n H46n HBn hal
  go_wp2_with (refine load46 rfl _ rfl w2.heap.size P A c B d rfl H464.out ?_)
  with_reducible refine (KM.out _ (HA.out.below HB4.out) (HBd.out.below HB4.out)).mono ?_
  rintro e w5 ⟨rfl, hb⟩
  have HB5 := Lib.hid (HB4.out.trans (hb.mono HB4.out.size))
  have HA5 := Lib.hid (HA.out.below HB5.out)
  have HBd5 := Lib.hid (HBd.out.below HB5.out)
  have HD5 := Lib.hid (HD.out.below hb)
  have HS : Hid (S2 w5 w.heap.size w2.heap.size (pkc P A c B d) (pkc P A c B d) w5) := ⟨Below.refl _ _, (hb.block _ (blk_lt H454.out)).trans H454.out, (hb.block _ (blk_lt H464.out)).trans H464.out⟩
  clear hb HD H454 H464 HB4 HA HBd KP KM
  go_upto_region 9 with fail
  refine wp_region_held_drew (S := S2 w5 w.heap.size w2.heap.size (pkc P A c B d) (pkc P A c B d)) (by kernel_rfl) HS.out.drew (fun hst => ?_)
  have HD6 := Lib.hid HD5.out.drew
  refine wpAnyH_take (i := 0) (oi := { dst := some 30, op := Op.load 45 (Operand.tmp 1), type := 45, pos := "law.go:36", after := #[], guard := none }) (v := .agg (pkc P A c B d)) rfl (by kernel_rfl) (by kernel_rfl) (by kernel_rfl) (fun _ _ _ h => h) (yl45 (by rfl) _ rfl rfl (isz45 P A c B d)) hst ?_
  simp only [Act.put, List.setIfInBounds_toArray, List.set_cons_zero, List.set_cons_succ]
  refine wpAnyH_take (i := 3) (oi := { dst := some 33, op := Op.load 46 (Operand.tmp 4), type := 46, pos := "law.go:36", after := #[], guard := none }) (v := .agg (pkc P A c B d)) rfl (by kernel_rfl) (by kernel_rfl) (by kernel_rfl) (fun _ _ _ h => h) (yl46 (by rfl) _ rfl rfl (isz46 P A c B d)) hst ?_
  simp only [Act.put, List.setIfInBounds_toArray, List.set_cons_zero, List.set_cons_succ]
  refine wpAnyH_ready (rs := [1]) (by kernel_rfl) (by simp) ?_
  refine AllReadyH.cons (o := { dst := some 31, op := Op.call { callee := Callee.value (Operand.func 22), args := #[Operand.tmp 30], argTypes := #[45] }, type := 37, pos := "law.go:36", after := #[{ on := 0, ground := Ground.data }], guard := none }) rfl (fun K hK => ?_) ?_
  · skip
    go_simp
    refine (psign P hP (by omega) (by omega) _ (HA5.out.below hst.below) (HBd5.out.below hst.below)).mono ?_
    rintro e ww3 ⟨An4, cn4, rfl, hrn4, hb2⟩
    have hv5 := Lib.hid (HD6.out.below hb2)
    have HSn4 := Lib.hid hrn4
    refine hK.out _ _ (hst.call hb2) (fun hh1 => ?_)
    clear hK K
    refine wpAnyH_ready (rs := [2, 4]) (by kernel_rfl) (by simp) ?_
    refine AllReadyH.cons (o := { dst := some 32, op := Op.convert 37 9 (Operand.tmp 31), type := 9, pos := "law.go:36", after := #[{ on := 1, ground := Ground.data }], guard := none }) rfl (fun K hK => ?_) ?_
    · skip
      refine step_conv rfl _ rfl An4 ((signL P).length) cn4 (signL P) rfl HSn4.out.r ?_
      refine hK.out _ _ hh1 (fun hh6 => ?_)
      clear hK K
      refine wpAnyH_ready (rs := [4]) (by kernel_rfl) (by simp) ?_
      refine AllReadyH.cons (o := { dst := some 34, op := Op.call { callee := Callee.value (Operand.func 23), args := #[Operand.tmp 33], argTypes := #[46] }, type := 37, pos := "law.go:36", after := #[{ on := 3, ground := Ground.data }, { on := 1, ground := Ground.chain }], guard := none }) rfl (fun K hK => ?_) ?_
      · skip
        go_simp
        refine (prsign P hP (by omega) (by omega) _ (HA5.out.below hh6.below) (HBd5.out.below hh6.below)).mono ?_
        rintro e ww9 ⟨An10, cn10, rfl, hrn10, hb8⟩
        have hv11 := Lib.hid (hv5.out.below hb8)
        have hv12 := Lib.hid (HSn4.out.below hb8)
        have HRn10 := Lib.hid hrn10
        refine hK.out _ _ (hh6.call hb8) (fun hh7 => ?_)
        clear hK K
        refine wpAnyH_ready (rs := [5]) (by kernel_rfl) (by simp) ?_
        refine AllReadyH.cons (o := { dst := some 35, op := Op.convert 37 9 (Operand.tmp 34), type := 9, pos := "law.go:36", after := #[{ on := 4, ground := Ground.data }], guard := none }) rfl (fun K hK => ?_) ?_
        · skip
          refine step_conv rfl _ rfl An10 ((signL P).length) cn10 (signL P) rfl HRn10.out.r ?_
          refine hK.out _ _ hh7 (fun hh13 => ?_)
          clear hK K
          refine wpAnyH_take (i := 6) (oi := { dst := some 36, op := Op.binOp BinOp.neq 9 (Operand.tmp 32) (Operand.tmp 35) 9, type := 4, pos := "law.go:36", after := #[{ on := 2, ground := Ground.data }, { on := 5, ground := Ground.data }], guard := none }) (v := .bool false) rfl (by kernel_rfl) (by kernel_rfl) (by kernel_rfl) (fun _ _ _ h => h) (Or.inl ⟨by rfl, fun w' _ => neqS rfl rfl⟩) hh13 ?_
          simp only [Act.put, List.setIfInBounds_toArray, List.set_cons_zero, List.set_cons_succ]
          refine wpAnyH_done (by kernel_rfl) ?_ _
          have HZ9 := Lib.hid hh13
          go_upto_region 13 with fail
          refine wp_region_held_drew (S := S2 w5 w.heap.size w2.heap.size (pkc P A c B d) (pkc P A c B d)) (by kernel_rfl) HZ9.out.drew (fun hst13 => ?_)
          have HD13 := Lib.hid hv11.out.drew
          refine wpAnyH_take (i := 0) (oi := { dst := some 46, op := Op.move (Operand.tmp 6), type := 28, pos := "law.go:42", after := #[], guard := none }) (v := .int .i64 0) rfl (by kernel_rfl) (by kernel_rfl) (by kernel_rfl) (fun _ _ _ h => h) (Or.inl ⟨by rfl, fun w' _ => by rfl⟩) hst13 ?_
          simp only [Act.put, List.setIfInBounds_toArray, List.set_cons_zero, List.set_cons_succ]
          refine wpAnyH_take (i := 1) (oi := { dst := some 47, op := Op.binOp BinOp.eql 28 (Operand.tmp 46) (Operand.const (Value.int IntKind.i64 0)) 28, type := 4, pos := "law.go:42", after := #[{ on := 0, ground := Ground.data }], guard := none }) (v := .bool true) rfl (by kernel_rfl) (by kernel_rfl) (by kernel_rfl) (fun _ _ _ h => h) (Or.inl ⟨by rfl, fun w' _ => eq28 rfl rfl⟩) hst13 ?_
          simp only [Act.put, List.setIfInBounds_toArray, List.set_cons_zero, List.set_cons_succ]
          refine wpAnyH_take (i := 2) (oi := { dst := some 48, op := Op.move (Operand.tmp 47), type := 4, pos := "law.go:42", after := #[{ on := 1, ground := Ground.data }], guard := none }) (v := .bool true) rfl (by kernel_rfl) (by kernel_rfl) (by kernel_rfl) (fun _ _ _ h => h) (Or.inl ⟨by rfl, fun w' _ => by rfl⟩) hst13 ?_
          simp only [Act.put, List.setIfInBounds_toArray, List.set_cons_zero, List.set_cons_succ]
          refine wpAnyH_take (i := 3) (oi := { dst := some 49, op := Op.move (Operand.tmp 5), type := 37, pos := "law.go:42", after := #[{ on := 2, ground := Ground.guard }], guard := some (2, true) }) (v := .slice D (putL P).length f) rfl (by kernel_rfl) (by kernel_rfl) (by kernel_rfl) (fun _ _ _ h => h) (Or.inl ⟨by rfl, fun w' _ => by rfl⟩) hst13 ?_
          simp only [Act.put, List.setIfInBounds_toArray, List.set_cons_zero, List.set_cons_succ]
          refine wpAnyH_take (i := 5) (oi := { dst := some 51, op := Op.load 46 (Operand.tmp 4), type := 46, pos := "law.go:42", after := #[{ on := 2, ground := Ground.guard }], guard := some (2, true) }) (v := .agg (pkc P A c B d)) rfl (by kernel_rfl) (by kernel_rfl) (by kernel_rfl) (fun _ _ _ h => h) (yl46 (by rfl) _ rfl rfl (isz46 P A c B d)) hst13 ?_
          simp only [Act.put, List.setIfInBounds_toArray, List.set_cons_zero, List.set_cons_succ]
          refine wpAnyH_ready (rs := [4, 6]) (by kernel_rfl) (by simp) ?_
          refine AllReadyH.cons (o := { dst := some 50, op := Op.convert 37 9 (Operand.tmp 49), type := 9, pos := "law.go:42", after := #[{ on := 3, ground := Ground.data }, { on := 2, ground := Ground.guard }], guard := some (2, true) }) rfl (fun K hK => ?_) ?_
          · skip
            refine step_conv rfl _ rfl D ((putL P).length) f (putL P) rfl HD13.out.r ?_
            refine hK.out _ _ hst13 (fun hh1 => ?_)
            clear hK K
            refine wpAnyH_ready (rs := [6]) (by kernel_rfl) (by simp) ?_
            refine AllReadyH.cons (o := { dst := some 52, op := Op.call { callee := Callee.value (Operand.func 24), args := #[Operand.tmp 51], argTypes := #[46] }, type := 37, pos := "law.go:42", after := #[{ on := 5, ground := Ground.data }, { on := 2, ground := Ground.chain }, { on := 2, ground := Ground.guard }], guard := some (2, true) }) rfl (fun K hK => ?_) ?_
            · skip
              go_simp
              refine (prput P hP HMB.out (by omega) (by omega) _ (HA5.out.below hh1.below) (HBd5.out.below hh1.below)).mono ?_
              rintro e ww4 ⟨An5, cn5, rfl, hrn5, hb3⟩
              have hv6 := Lib.hid (HD13.out.below hb3)
              have HFn5 := Lib.hid hrn5
              refine hK.out _ _ (hh1.call hb3) (fun hh2 => ?_)
              clear hK K
              refine wpAnyH_ready (rs := [7]) (by kernel_rfl) (by simp) ?_
              refine AllReadyH.cons (o := { dst := some 53, op := Op.convert 37 9 (Operand.tmp 52), type := 9, pos := "law.go:42", after := #[{ on := 6, ground := Ground.data }, { on := 2, ground := Ground.guard }], guard := some (2, true) }) rfl (fun K hK => ?_) ?_
              · skip
                refine step_conv rfl _ rfl An5 ((putL P).length) cn5 (putL P) rfl HFn5.out.r ?_
                refine hK.out _ _ hh2 (fun hh7 => ?_)
                clear hK K
                refine wpAnyH_take (i := 8) (oi := { dst := some 54, op := Op.binOp BinOp.eql 9 (Operand.tmp 50) (Operand.tmp 53) 9, type := 4, pos := "law.go:42", after := #[{ on := 4, ground := Ground.data }, { on := 7, ground := Ground.data }, { on := 2, ground := Ground.guard }], guard := some (2, true) }) (v := .bool true) rfl (by kernel_rfl) (by kernel_rfl) (by kernel_rfl) (fun _ _ _ h => h) (Or.inl ⟨by rfl, fun w' _ => eqS rfl rfl⟩) hh7 ?_
                simp only [Act.put, List.setIfInBounds_toArray, List.set_cons_zero, List.set_cons_succ]
                refine wpAnyH_take (i := 9) (oi := { dst := some 55, op := Op.pick (Operand.tmp 48) (Operand.tmp 54) (Operand.const (Value.bool false)), type := 4, pos := "law.go:42", after := #[{ on := 2, ground := Ground.data }, { on := 8, ground := Ground.data }], guard := none }) (v := .bool true) rfl (by kernel_rfl) (by kernel_rfl) (by kernel_rfl) (fun _ _ _ h => h) (Or.inl ⟨by rfl, fun w' _ => by rfl⟩) hh7 ?_
                simp only [Act.put, List.setIfInBounds_toArray, List.set_cons_zero, List.set_cons_succ]
                refine wpAnyH_take (i := 10) (oi := { dst := some 2, op := Op.assign (Operand.tmp 55), type := 4, pos := "law.go:42", after := #[{ on := 9, ground := Ground.data }, { on := 6, ground := Ground.chain }, { on := 0, ground := Ground.phase }, { on := 1, ground := Ground.phase }, { on := 2, ground := Ground.phase }, { on := 3, ground := Ground.phase }, { on := 4, ground := Ground.phase }, { on := 5, ground := Ground.phase }, { on := 6, ground := Ground.phase }, { on := 7, ground := Ground.phase }, { on := 8, ground := Ground.phase }, { on := 9, ground := Ground.phase }], guard := none }) (v := .bool true) rfl (by kernel_rfl) (by kernel_rfl) (by kernel_rfl) (fun _ _ _ h => h) (Or.inl ⟨by rfl, fun w' _ => by rfl⟩) hh7 ?_
                simp only [Act.put, List.setIfInBounds_toArray, List.set_cons_zero, List.set_cons_succ]
                refine wpAnyH_done (by kernel_rfl) ?_ _
                have HZ := Lib.hid hh7
                go_wp2_with fail
                go_ret
                exact ⟨rfl, HB5.out.trans (HZ.out.below.mono HB5.out.size)⟩
              exact AllReadyH.nil
            exact AllReadyH.nil
          refine AllReadyH.cons (o := { dst := some 52, op := Op.call { callee := Callee.value (Operand.func 24), args := #[Operand.tmp 51], argTypes := #[46] }, type := 37, pos := "law.go:42", after := #[{ on := 5, ground := Ground.data }, { on := 2, ground := Ground.chain }, { on := 2, ground := Ground.guard }], guard := some (2, true) }) rfl (fun K hK => ?_) ?_
          · skip
            go_simp
            refine (prput P hP HMB.out (by omega) (by omega) _ (HA5.out.below hst13.below) (HBd5.out.below hst13.below)).mono ?_
            rintro e ww10 ⟨An11, cn11, rfl, hrn11, hb9⟩
            have hv12 := Lib.hid (HD13.out.below hb9)
            have HFn11 := Lib.hid hrn11
            refine hK.out _ _ (hst13.call hb9) (fun hh8 => ?_)
            clear hK K
            refine wpAnyH_ready (rs := [4, 7]) (by kernel_rfl) (by simp) ?_
            refine AllReadyH.cons (o := { dst := some 50, op := Op.convert 37 9 (Operand.tmp 49), type := 9, pos := "law.go:42", after := #[{ on := 3, ground := Ground.data }, { on := 2, ground := Ground.guard }], guard := some (2, true) }) rfl (fun K hK => ?_) ?_
            · skip
              refine step_conv rfl _ rfl D ((putL P).length) f (putL P) rfl hv12.out.r ?_
              refine hK.out _ _ hh8 (fun hh13 => ?_)
              clear hK K
              refine wpAnyH_ready (rs := [7]) (by kernel_rfl) (by simp) ?_
              refine AllReadyH.cons (o := { dst := some 53, op := Op.convert 37 9 (Operand.tmp 52), type := 9, pos := "law.go:42", after := #[{ on := 6, ground := Ground.data }, { on := 2, ground := Ground.guard }], guard := some (2, true) }) rfl (fun K hK => ?_) ?_
              · skip
                refine step_conv rfl _ rfl An11 ((putL P).length) cn11 (putL P) rfl HFn11.out.r ?_
                refine hK.out _ _ hh13 (fun hh14 => ?_)
                clear hK K
                refine wpAnyH_take (i := 8) (oi := { dst := some 54, op := Op.binOp BinOp.eql 9 (Operand.tmp 50) (Operand.tmp 53) 9, type := 4, pos := "law.go:42", after := #[{ on := 4, ground := Ground.data }, { on := 7, ground := Ground.data }, { on := 2, ground := Ground.guard }], guard := some (2, true) }) (v := .bool true) rfl (by kernel_rfl) (by kernel_rfl) (by kernel_rfl) (fun _ _ _ h => h) (Or.inl ⟨by rfl, fun w' _ => eqS rfl rfl⟩) hh14 ?_
                simp only [Act.put, List.setIfInBounds_toArray, List.set_cons_zero, List.set_cons_succ]
                refine wpAnyH_take (i := 9) (oi := { dst := some 55, op := Op.pick (Operand.tmp 48) (Operand.tmp 54) (Operand.const (Value.bool false)), type := 4, pos := "law.go:42", after := #[{ on := 2, ground := Ground.data }, { on := 8, ground := Ground.data }], guard := none }) (v := .bool true) rfl (by kernel_rfl) (by kernel_rfl) (by kernel_rfl) (fun _ _ _ h => h) (Or.inl ⟨by rfl, fun w' _ => by rfl⟩) hh14 ?_
                simp only [Act.put, List.setIfInBounds_toArray, List.set_cons_zero, List.set_cons_succ]
                refine wpAnyH_take (i := 10) (oi := { dst := some 2, op := Op.assign (Operand.tmp 55), type := 4, pos := "law.go:42", after := #[{ on := 9, ground := Ground.data }, { on := 6, ground := Ground.chain }, { on := 0, ground := Ground.phase }, { on := 1, ground := Ground.phase }, { on := 2, ground := Ground.phase }, { on := 3, ground := Ground.phase }, { on := 4, ground := Ground.phase }, { on := 5, ground := Ground.phase }, { on := 6, ground := Ground.phase }, { on := 7, ground := Ground.phase }, { on := 8, ground := Ground.phase }, { on := 9, ground := Ground.phase }], guard := none }) (v := .bool true) rfl (by kernel_rfl) (by kernel_rfl) (by kernel_rfl) (fun _ _ _ h => h) (Or.inl ⟨by rfl, fun w' _ => by rfl⟩) hh14 ?_
                simp only [Act.put, List.setIfInBounds_toArray, List.set_cons_zero, List.set_cons_succ]
                refine wpAnyH_done (by kernel_rfl) ?_ _
                have HZ := Lib.hid hh14
                go_wp2_with fail
                go_ret
                exact ⟨rfl, HB5.out.trans (HZ.out.below.mono HB5.out.size)⟩
              exact AllReadyH.nil
            refine AllReadyH.cons (o := { dst := some 53, op := Op.convert 37 9 (Operand.tmp 52), type := 9, pos := "law.go:42", after := #[{ on := 6, ground := Ground.data }, { on := 2, ground := Ground.guard }], guard := some (2, true) }) rfl (fun K hK => ?_) ?_
            · skip
              refine step_conv rfl _ rfl An11 ((putL P).length) cn11 (putL P) rfl HFn11.out.r ?_
              refine hK.out _ _ hh8 (fun hh15 => ?_)
              clear hK K
              refine wpAnyH_ready (rs := [4]) (by kernel_rfl) (by simp) ?_
              refine AllReadyH.cons (o := { dst := some 50, op := Op.convert 37 9 (Operand.tmp 49), type := 9, pos := "law.go:42", after := #[{ on := 3, ground := Ground.data }, { on := 2, ground := Ground.guard }], guard := some (2, true) }) rfl (fun K hK => ?_) ?_
              · skip
                refine step_conv rfl _ rfl D ((putL P).length) f (putL P) rfl hv12.out.r ?_
                refine hK.out _ _ hh15 (fun hh16 => ?_)
                clear hK K
                refine wpAnyH_take (i := 8) (oi := { dst := some 54, op := Op.binOp BinOp.eql 9 (Operand.tmp 50) (Operand.tmp 53) 9, type := 4, pos := "law.go:42", after := #[{ on := 4, ground := Ground.data }, { on := 7, ground := Ground.data }, { on := 2, ground := Ground.guard }], guard := some (2, true) }) (v := .bool true) rfl (by kernel_rfl) (by kernel_rfl) (by kernel_rfl) (fun _ _ _ h => h) (Or.inl ⟨by rfl, fun w' _ => eqS rfl rfl⟩) hh16 ?_
                simp only [Act.put, List.setIfInBounds_toArray, List.set_cons_zero, List.set_cons_succ]
                refine wpAnyH_take (i := 9) (oi := { dst := some 55, op := Op.pick (Operand.tmp 48) (Operand.tmp 54) (Operand.const (Value.bool false)), type := 4, pos := "law.go:42", after := #[{ on := 2, ground := Ground.data }, { on := 8, ground := Ground.data }], guard := none }) (v := .bool true) rfl (by kernel_rfl) (by kernel_rfl) (by kernel_rfl) (fun _ _ _ h => h) (Or.inl ⟨by rfl, fun w' _ => by rfl⟩) hh16 ?_
                simp only [Act.put, List.setIfInBounds_toArray, List.set_cons_zero, List.set_cons_succ]
                refine wpAnyH_take (i := 10) (oi := { dst := some 2, op := Op.assign (Operand.tmp 55), type := 4, pos := "law.go:42", after := #[{ on := 9, ground := Ground.data }, { on := 6, ground := Ground.chain }, { on := 0, ground := Ground.phase }, { on := 1, ground := Ground.phase }, { on := 2, ground := Ground.phase }, { on := 3, ground := Ground.phase }, { on := 4, ground := Ground.phase }, { on := 5, ground := Ground.phase }, { on := 6, ground := Ground.phase }, { on := 7, ground := Ground.phase }, { on := 8, ground := Ground.phase }, { on := 9, ground := Ground.phase }], guard := none }) (v := .bool true) rfl (by kernel_rfl) (by kernel_rfl) (by kernel_rfl) (fun _ _ _ h => h) (Or.inl ⟨by rfl, fun w' _ => by rfl⟩) hh16 ?_
                simp only [Act.put, List.setIfInBounds_toArray, List.set_cons_zero, List.set_cons_succ]
                refine wpAnyH_done (by kernel_rfl) ?_ _
                have HZ := Lib.hid hh16
                go_wp2_with fail
                go_ret
                exact ⟨rfl, HB5.out.trans (HZ.out.below.mono HB5.out.size)⟩
              exact AllReadyH.nil
            exact AllReadyH.nil
          exact AllReadyH.nil
        exact AllReadyH.nil
      exact AllReadyH.nil
    refine AllReadyH.cons (o := { dst := some 34, op := Op.call { callee := Callee.value (Operand.func 23), args := #[Operand.tmp 33], argTypes := #[46] }, type := 37, pos := "law.go:36", after := #[{ on := 3, ground := Ground.data }, { on := 1, ground := Ground.chain }], guard := none }) rfl (fun K hK => ?_) ?_
    · skip
      go_simp
      refine (prsign P hP (by omega) (by omega) _ (HA5.out.below hh1.below) (HBd5.out.below hh1.below)).mono ?_
      rintro e ww16 ⟨An17, cn17, rfl, hrn17, hb15⟩
      have hv18 := Lib.hid (hv5.out.below hb15)
      have hv19 := Lib.hid (HSn4.out.below hb15)
      have HRn17 := Lib.hid hrn17
      refine hK.out _ _ (hh1.call hb15) (fun hh14 => ?_)
      clear hK K
      refine wpAnyH_ready (rs := [2, 5]) (by kernel_rfl) (by simp) ?_
      refine AllReadyH.cons (o := { dst := some 32, op := Op.convert 37 9 (Operand.tmp 31), type := 9, pos := "law.go:36", after := #[{ on := 1, ground := Ground.data }], guard := none }) rfl (fun K hK => ?_) ?_
      · skip
        refine step_conv rfl _ rfl An4 ((signL P).length) cn4 (signL P) rfl hv19.out.r ?_
        refine hK.out _ _ hh14 (fun hh20 => ?_)
        clear hK K
        refine wpAnyH_ready (rs := [5]) (by kernel_rfl) (by simp) ?_
        refine AllReadyH.cons (o := { dst := some 35, op := Op.convert 37 9 (Operand.tmp 34), type := 9, pos := "law.go:36", after := #[{ on := 4, ground := Ground.data }], guard := none }) rfl (fun K hK => ?_) ?_
        · skip
          refine step_conv rfl _ rfl An17 ((signL P).length) cn17 (signL P) rfl HRn17.out.r ?_
          refine hK.out _ _ hh20 (fun hh21 => ?_)
          clear hK K
          refine wpAnyH_take (i := 6) (oi := { dst := some 36, op := Op.binOp BinOp.neq 9 (Operand.tmp 32) (Operand.tmp 35) 9, type := 4, pos := "law.go:36", after := #[{ on := 2, ground := Ground.data }, { on := 5, ground := Ground.data }], guard := none }) (v := .bool false) rfl (by kernel_rfl) (by kernel_rfl) (by kernel_rfl) (fun _ _ _ h => h) (Or.inl ⟨by rfl, fun w' _ => neqS rfl rfl⟩) hh21 ?_
          simp only [Act.put, List.setIfInBounds_toArray, List.set_cons_zero, List.set_cons_succ]
          refine wpAnyH_done (by kernel_rfl) ?_ _
          have HZ9 := Lib.hid hh21
          go_upto_region 13 with fail
          refine wp_region_held_drew (S := S2 w5 w.heap.size w2.heap.size (pkc P A c B d) (pkc P A c B d)) (by kernel_rfl) HZ9.out.drew (fun hst13 => ?_)
          have HD13 := Lib.hid hv18.out.drew
          refine wpAnyH_take (i := 0) (oi := { dst := some 46, op := Op.move (Operand.tmp 6), type := 28, pos := "law.go:42", after := #[], guard := none }) (v := .int .i64 0) rfl (by kernel_rfl) (by kernel_rfl) (by kernel_rfl) (fun _ _ _ h => h) (Or.inl ⟨by rfl, fun w' _ => by rfl⟩) hst13 ?_
          simp only [Act.put, List.setIfInBounds_toArray, List.set_cons_zero, List.set_cons_succ]
          refine wpAnyH_take (i := 1) (oi := { dst := some 47, op := Op.binOp BinOp.eql 28 (Operand.tmp 46) (Operand.const (Value.int IntKind.i64 0)) 28, type := 4, pos := "law.go:42", after := #[{ on := 0, ground := Ground.data }], guard := none }) (v := .bool true) rfl (by kernel_rfl) (by kernel_rfl) (by kernel_rfl) (fun _ _ _ h => h) (Or.inl ⟨by rfl, fun w' _ => eq28 rfl rfl⟩) hst13 ?_
          simp only [Act.put, List.setIfInBounds_toArray, List.set_cons_zero, List.set_cons_succ]
          refine wpAnyH_take (i := 2) (oi := { dst := some 48, op := Op.move (Operand.tmp 47), type := 4, pos := "law.go:42", after := #[{ on := 1, ground := Ground.data }], guard := none }) (v := .bool true) rfl (by kernel_rfl) (by kernel_rfl) (by kernel_rfl) (fun _ _ _ h => h) (Or.inl ⟨by rfl, fun w' _ => by rfl⟩) hst13 ?_
          simp only [Act.put, List.setIfInBounds_toArray, List.set_cons_zero, List.set_cons_succ]
          refine wpAnyH_take (i := 3) (oi := { dst := some 49, op := Op.move (Operand.tmp 5), type := 37, pos := "law.go:42", after := #[{ on := 2, ground := Ground.guard }], guard := some (2, true) }) (v := .slice D (putL P).length f) rfl (by kernel_rfl) (by kernel_rfl) (by kernel_rfl) (fun _ _ _ h => h) (Or.inl ⟨by rfl, fun w' _ => by rfl⟩) hst13 ?_
          simp only [Act.put, List.setIfInBounds_toArray, List.set_cons_zero, List.set_cons_succ]
          refine wpAnyH_take (i := 5) (oi := { dst := some 51, op := Op.load 46 (Operand.tmp 4), type := 46, pos := "law.go:42", after := #[{ on := 2, ground := Ground.guard }], guard := some (2, true) }) (v := .agg (pkc P A c B d)) rfl (by kernel_rfl) (by kernel_rfl) (by kernel_rfl) (fun _ _ _ h => h) (yl46 (by rfl) _ rfl rfl (isz46 P A c B d)) hst13 ?_
          simp only [Act.put, List.setIfInBounds_toArray, List.set_cons_zero, List.set_cons_succ]
          refine wpAnyH_ready (rs := [4, 6]) (by kernel_rfl) (by simp) ?_
          refine AllReadyH.cons (o := { dst := some 50, op := Op.convert 37 9 (Operand.tmp 49), type := 9, pos := "law.go:42", after := #[{ on := 3, ground := Ground.data }, { on := 2, ground := Ground.guard }], guard := some (2, true) }) rfl (fun K hK => ?_) ?_
          · skip
            refine step_conv rfl _ rfl D ((putL P).length) f (putL P) rfl HD13.out.r ?_
            refine hK.out _ _ hst13 (fun hh1 => ?_)
            clear hK K
            refine wpAnyH_ready (rs := [6]) (by kernel_rfl) (by simp) ?_
            refine AllReadyH.cons (o := { dst := some 52, op := Op.call { callee := Callee.value (Operand.func 24), args := #[Operand.tmp 51], argTypes := #[46] }, type := 37, pos := "law.go:42", after := #[{ on := 5, ground := Ground.data }, { on := 2, ground := Ground.chain }, { on := 2, ground := Ground.guard }], guard := some (2, true) }) rfl (fun K hK => ?_) ?_
            · skip
              go_simp
              refine (prput P hP HMB.out (by omega) (by omega) _ (HA5.out.below hh1.below) (HBd5.out.below hh1.below)).mono ?_
              rintro e ww4 ⟨An5, cn5, rfl, hrn5, hb3⟩
              have hv6 := Lib.hid (HD13.out.below hb3)
              have HFn5 := Lib.hid hrn5
              refine hK.out _ _ (hh1.call hb3) (fun hh2 => ?_)
              clear hK K
              refine wpAnyH_ready (rs := [7]) (by kernel_rfl) (by simp) ?_
              refine AllReadyH.cons (o := { dst := some 53, op := Op.convert 37 9 (Operand.tmp 52), type := 9, pos := "law.go:42", after := #[{ on := 6, ground := Ground.data }, { on := 2, ground := Ground.guard }], guard := some (2, true) }) rfl (fun K hK => ?_) ?_
              · skip
                refine step_conv rfl _ rfl An5 ((putL P).length) cn5 (putL P) rfl HFn5.out.r ?_
                refine hK.out _ _ hh2 (fun hh7 => ?_)
                clear hK K
                refine wpAnyH_take (i := 8) (oi := { dst := some 54, op := Op.binOp BinOp.eql 9 (Operand.tmp 50) (Operand.tmp 53) 9, type := 4, pos := "law.go:42", after := #[{ on := 4, ground := Ground.data }, { on := 7, ground := Ground.data }, { on := 2, ground := Ground.guard }], guard := some (2, true) }) (v := .bool true) rfl (by kernel_rfl) (by kernel_rfl) (by kernel_rfl) (fun _ _ _ h => h) (Or.inl ⟨by rfl, fun w' _ => eqS rfl rfl⟩) hh7 ?_
                simp only [Act.put, List.setIfInBounds_toArray, List.set_cons_zero, List.set_cons_succ]
                refine wpAnyH_take (i := 9) (oi := { dst := some 55, op := Op.pick (Operand.tmp 48) (Operand.tmp 54) (Operand.const (Value.bool false)), type := 4, pos := "law.go:42", after := #[{ on := 2, ground := Ground.data }, { on := 8, ground := Ground.data }], guard := none }) (v := .bool true) rfl (by kernel_rfl) (by kernel_rfl) (by kernel_rfl) (fun _ _ _ h => h) (Or.inl ⟨by rfl, fun w' _ => by rfl⟩) hh7 ?_
                simp only [Act.put, List.setIfInBounds_toArray, List.set_cons_zero, List.set_cons_succ]
                refine wpAnyH_take (i := 10) (oi := { dst := some 2, op := Op.assign (Operand.tmp 55), type := 4, pos := "law.go:42", after := #[{ on := 9, ground := Ground.data }, { on := 6, ground := Ground.chain }, { on := 0, ground := Ground.phase }, { on := 1, ground := Ground.phase }, { on := 2, ground := Ground.phase }, { on := 3, ground := Ground.phase }, { on := 4, ground := Ground.phase }, { on := 5, ground := Ground.phase }, { on := 6, ground := Ground.phase }, { on := 7, ground := Ground.phase }, { on := 8, ground := Ground.phase }, { on := 9, ground := Ground.phase }], guard := none }) (v := .bool true) rfl (by kernel_rfl) (by kernel_rfl) (by kernel_rfl) (fun _ _ _ h => h) (Or.inl ⟨by rfl, fun w' _ => by rfl⟩) hh7 ?_
                simp only [Act.put, List.setIfInBounds_toArray, List.set_cons_zero, List.set_cons_succ]
                refine wpAnyH_done (by kernel_rfl) ?_ _
                have HZ := Lib.hid hh7
                go_wp2_with fail
                go_ret
                exact ⟨rfl, HB5.out.trans (HZ.out.below.mono HB5.out.size)⟩
              exact AllReadyH.nil
            exact AllReadyH.nil
          refine AllReadyH.cons (o := { dst := some 52, op := Op.call { callee := Callee.value (Operand.func 24), args := #[Operand.tmp 51], argTypes := #[46] }, type := 37, pos := "law.go:42", after := #[{ on := 5, ground := Ground.data }, { on := 2, ground := Ground.chain }, { on := 2, ground := Ground.guard }], guard := some (2, true) }) rfl (fun K hK => ?_) ?_
          · skip
            go_simp
            refine (prput P hP HMB.out (by omega) (by omega) _ (HA5.out.below hst13.below) (HBd5.out.below hst13.below)).mono ?_
            rintro e ww10 ⟨An11, cn11, rfl, hrn11, hb9⟩
            have hv12 := Lib.hid (HD13.out.below hb9)
            have HFn11 := Lib.hid hrn11
            refine hK.out _ _ (hst13.call hb9) (fun hh8 => ?_)
            clear hK K
            refine wpAnyH_ready (rs := [4, 7]) (by kernel_rfl) (by simp) ?_
            refine AllReadyH.cons (o := { dst := some 50, op := Op.convert 37 9 (Operand.tmp 49), type := 9, pos := "law.go:42", after := #[{ on := 3, ground := Ground.data }, { on := 2, ground := Ground.guard }], guard := some (2, true) }) rfl (fun K hK => ?_) ?_
            · skip
              refine step_conv rfl _ rfl D ((putL P).length) f (putL P) rfl hv12.out.r ?_
              refine hK.out _ _ hh8 (fun hh13 => ?_)
              clear hK K
              refine wpAnyH_ready (rs := [7]) (by kernel_rfl) (by simp) ?_
              refine AllReadyH.cons (o := { dst := some 53, op := Op.convert 37 9 (Operand.tmp 52), type := 9, pos := "law.go:42", after := #[{ on := 6, ground := Ground.data }, { on := 2, ground := Ground.guard }], guard := some (2, true) }) rfl (fun K hK => ?_) ?_
              · skip
                refine step_conv rfl _ rfl An11 ((putL P).length) cn11 (putL P) rfl HFn11.out.r ?_
                refine hK.out _ _ hh13 (fun hh14 => ?_)
                clear hK K
                refine wpAnyH_take (i := 8) (oi := { dst := some 54, op := Op.binOp BinOp.eql 9 (Operand.tmp 50) (Operand.tmp 53) 9, type := 4, pos := "law.go:42", after := #[{ on := 4, ground := Ground.data }, { on := 7, ground := Ground.data }, { on := 2, ground := Ground.guard }], guard := some (2, true) }) (v := .bool true) rfl (by kernel_rfl) (by kernel_rfl) (by kernel_rfl) (fun _ _ _ h => h) (Or.inl ⟨by rfl, fun w' _ => eqS rfl rfl⟩) hh14 ?_
                simp only [Act.put, List.setIfInBounds_toArray, List.set_cons_zero, List.set_cons_succ]
                refine wpAnyH_take (i := 9) (oi := { dst := some 55, op := Op.pick (Operand.tmp 48) (Operand.tmp 54) (Operand.const (Value.bool false)), type := 4, pos := "law.go:42", after := #[{ on := 2, ground := Ground.data }, { on := 8, ground := Ground.data }], guard := none }) (v := .bool true) rfl (by kernel_rfl) (by kernel_rfl) (by kernel_rfl) (fun _ _ _ h => h) (Or.inl ⟨by rfl, fun w' _ => by rfl⟩) hh14 ?_
                simp only [Act.put, List.setIfInBounds_toArray, List.set_cons_zero, List.set_cons_succ]
                refine wpAnyH_take (i := 10) (oi := { dst := some 2, op := Op.assign (Operand.tmp 55), type := 4, pos := "law.go:42", after := #[{ on := 9, ground := Ground.data }, { on := 6, ground := Ground.chain }, { on := 0, ground := Ground.phase }, { on := 1, ground := Ground.phase }, { on := 2, ground := Ground.phase }, { on := 3, ground := Ground.phase }, { on := 4, ground := Ground.phase }, { on := 5, ground := Ground.phase }, { on := 6, ground := Ground.phase }, { on := 7, ground := Ground.phase }, { on := 8, ground := Ground.phase }, { on := 9, ground := Ground.phase }], guard := none }) (v := .bool true) rfl (by kernel_rfl) (by kernel_rfl) (by kernel_rfl) (fun _ _ _ h => h) (Or.inl ⟨by rfl, fun w' _ => by rfl⟩) hh14 ?_
                simp only [Act.put, List.setIfInBounds_toArray, List.set_cons_zero, List.set_cons_succ]
                refine wpAnyH_done (by kernel_rfl) ?_ _
                have HZ := Lib.hid hh14
                go_wp2_with fail
                go_ret
                exact ⟨rfl, HB5.out.trans (HZ.out.below.mono HB5.out.size)⟩
              exact AllReadyH.nil
            refine AllReadyH.cons (o := { dst := some 53, op := Op.convert 37 9 (Operand.tmp 52), type := 9, pos := "law.go:42", after := #[{ on := 6, ground := Ground.data }, { on := 2, ground := Ground.guard }], guard := some (2, true) }) rfl (fun K hK => ?_) ?_
            · skip
              refine step_conv rfl _ rfl An11 ((putL P).length) cn11 (putL P) rfl HFn11.out.r ?_
              refine hK.out _ _ hh8 (fun hh15 => ?_)
              clear hK K
              refine wpAnyH_ready (rs := [4]) (by kernel_rfl) (by simp) ?_
              refine AllReadyH.cons (o := { dst := some 50, op := Op.convert 37 9 (Operand.tmp 49), type := 9, pos := "law.go:42", after := #[{ on := 3, ground := Ground.data }, { on := 2, ground := Ground.guard }], guard := some (2, true) }) rfl (fun K hK => ?_) ?_
              · skip
                refine step_conv rfl _ rfl D ((putL P).length) f (putL P) rfl hv12.out.r ?_
                refine hK.out _ _ hh15 (fun hh16 => ?_)
                clear hK K
                refine wpAnyH_take (i := 8) (oi := { dst := some 54, op := Op.binOp BinOp.eql 9 (Operand.tmp 50) (Operand.tmp 53) 9, type := 4, pos := "law.go:42", after := #[{ on := 4, ground := Ground.data }, { on := 7, ground := Ground.data }, { on := 2, ground := Ground.guard }], guard := some (2, true) }) (v := .bool true) rfl (by kernel_rfl) (by kernel_rfl) (by kernel_rfl) (fun _ _ _ h => h) (Or.inl ⟨by rfl, fun w' _ => eqS rfl rfl⟩) hh16 ?_
                simp only [Act.put, List.setIfInBounds_toArray, List.set_cons_zero, List.set_cons_succ]
                refine wpAnyH_take (i := 9) (oi := { dst := some 55, op := Op.pick (Operand.tmp 48) (Operand.tmp 54) (Operand.const (Value.bool false)), type := 4, pos := "law.go:42", after := #[{ on := 2, ground := Ground.data }, { on := 8, ground := Ground.data }], guard := none }) (v := .bool true) rfl (by kernel_rfl) (by kernel_rfl) (by kernel_rfl) (fun _ _ _ h => h) (Or.inl ⟨by rfl, fun w' _ => by rfl⟩) hh16 ?_
                simp only [Act.put, List.setIfInBounds_toArray, List.set_cons_zero, List.set_cons_succ]
                refine wpAnyH_take (i := 10) (oi := { dst := some 2, op := Op.assign (Operand.tmp 55), type := 4, pos := "law.go:42", after := #[{ on := 9, ground := Ground.data }, { on := 6, ground := Ground.chain }, { on := 0, ground := Ground.phase }, { on := 1, ground := Ground.phase }, { on := 2, ground := Ground.phase }, { on := 3, ground := Ground.phase }, { on := 4, ground := Ground.phase }, { on := 5, ground := Ground.phase }, { on := 6, ground := Ground.phase }, { on := 7, ground := Ground.phase }, { on := 8, ground := Ground.phase }, { on := 9, ground := Ground.phase }], guard := none }) (v := .bool true) rfl (by kernel_rfl) (by kernel_rfl) (by kernel_rfl) (fun _ _ _ h => h) (Or.inl ⟨by rfl, fun w' _ => by rfl⟩) hh16 ?_
                simp only [Act.put, List.setIfInBounds_toArray, List.set_cons_zero, List.set_cons_succ]
                refine wpAnyH_done (by kernel_rfl) ?_ _
                have HZ := Lib.hid hh16
                go_wp2_with fail
                go_ret
                exact ⟨rfl, HB5.out.trans (HZ.out.below.mono HB5.out.size)⟩
              exact AllReadyH.nil
            exact AllReadyH.nil
          exact AllReadyH.nil
        exact AllReadyH.nil
      refine AllReadyH.cons (o := { dst := some 35, op := Op.convert 37 9 (Operand.tmp 34), type := 9, pos := "law.go:36", after := #[{ on := 4, ground := Ground.data }], guard := none }) rfl (fun K hK => ?_) ?_
      · skip
        refine step_conv rfl _ rfl An17 ((signL P).length) cn17 (signL P) rfl HRn17.out.r ?_
        refine hK.out _ _ hh14 (fun hh22 => ?_)
        clear hK K
        refine wpAnyH_ready (rs := [2]) (by kernel_rfl) (by simp) ?_
        refine AllReadyH.cons (o := { dst := some 32, op := Op.convert 37 9 (Operand.tmp 31), type := 9, pos := "law.go:36", after := #[{ on := 1, ground := Ground.data }], guard := none }) rfl (fun K hK => ?_) ?_
        · skip
          refine step_conv rfl _ rfl An4 ((signL P).length) cn4 (signL P) rfl hv19.out.r ?_
          refine hK.out _ _ hh22 (fun hh23 => ?_)
          clear hK K
          refine wpAnyH_take (i := 6) (oi := { dst := some 36, op := Op.binOp BinOp.neq 9 (Operand.tmp 32) (Operand.tmp 35) 9, type := 4, pos := "law.go:36", after := #[{ on := 2, ground := Ground.data }, { on := 5, ground := Ground.data }], guard := none }) (v := .bool false) rfl (by kernel_rfl) (by kernel_rfl) (by kernel_rfl) (fun _ _ _ h => h) (Or.inl ⟨by rfl, fun w' _ => neqS rfl rfl⟩) hh23 ?_
          simp only [Act.put, List.setIfInBounds_toArray, List.set_cons_zero, List.set_cons_succ]
          refine wpAnyH_done (by kernel_rfl) ?_ _
          have HZ9 := Lib.hid hh23
          go_upto_region 13 with fail
          refine wp_region_held_drew (S := S2 w5 w.heap.size w2.heap.size (pkc P A c B d) (pkc P A c B d)) (by kernel_rfl) HZ9.out.drew (fun hst13 => ?_)
          have HD13 := Lib.hid hv18.out.drew
          refine wpAnyH_take (i := 0) (oi := { dst := some 46, op := Op.move (Operand.tmp 6), type := 28, pos := "law.go:42", after := #[], guard := none }) (v := .int .i64 0) rfl (by kernel_rfl) (by kernel_rfl) (by kernel_rfl) (fun _ _ _ h => h) (Or.inl ⟨by rfl, fun w' _ => by rfl⟩) hst13 ?_
          simp only [Act.put, List.setIfInBounds_toArray, List.set_cons_zero, List.set_cons_succ]
          refine wpAnyH_take (i := 1) (oi := { dst := some 47, op := Op.binOp BinOp.eql 28 (Operand.tmp 46) (Operand.const (Value.int IntKind.i64 0)) 28, type := 4, pos := "law.go:42", after := #[{ on := 0, ground := Ground.data }], guard := none }) (v := .bool true) rfl (by kernel_rfl) (by kernel_rfl) (by kernel_rfl) (fun _ _ _ h => h) (Or.inl ⟨by rfl, fun w' _ => eq28 rfl rfl⟩) hst13 ?_
          simp only [Act.put, List.setIfInBounds_toArray, List.set_cons_zero, List.set_cons_succ]
          refine wpAnyH_take (i := 2) (oi := { dst := some 48, op := Op.move (Operand.tmp 47), type := 4, pos := "law.go:42", after := #[{ on := 1, ground := Ground.data }], guard := none }) (v := .bool true) rfl (by kernel_rfl) (by kernel_rfl) (by kernel_rfl) (fun _ _ _ h => h) (Or.inl ⟨by rfl, fun w' _ => by rfl⟩) hst13 ?_
          simp only [Act.put, List.setIfInBounds_toArray, List.set_cons_zero, List.set_cons_succ]
          refine wpAnyH_take (i := 3) (oi := { dst := some 49, op := Op.move (Operand.tmp 5), type := 37, pos := "law.go:42", after := #[{ on := 2, ground := Ground.guard }], guard := some (2, true) }) (v := .slice D (putL P).length f) rfl (by kernel_rfl) (by kernel_rfl) (by kernel_rfl) (fun _ _ _ h => h) (Or.inl ⟨by rfl, fun w' _ => by rfl⟩) hst13 ?_
          simp only [Act.put, List.setIfInBounds_toArray, List.set_cons_zero, List.set_cons_succ]
          refine wpAnyH_take (i := 5) (oi := { dst := some 51, op := Op.load 46 (Operand.tmp 4), type := 46, pos := "law.go:42", after := #[{ on := 2, ground := Ground.guard }], guard := some (2, true) }) (v := .agg (pkc P A c B d)) rfl (by kernel_rfl) (by kernel_rfl) (by kernel_rfl) (fun _ _ _ h => h) (yl46 (by rfl) _ rfl rfl (isz46 P A c B d)) hst13 ?_
          simp only [Act.put, List.setIfInBounds_toArray, List.set_cons_zero, List.set_cons_succ]
          refine wpAnyH_ready (rs := [4, 6]) (by kernel_rfl) (by simp) ?_
          refine AllReadyH.cons (o := { dst := some 50, op := Op.convert 37 9 (Operand.tmp 49), type := 9, pos := "law.go:42", after := #[{ on := 3, ground := Ground.data }, { on := 2, ground := Ground.guard }], guard := some (2, true) }) rfl (fun K hK => ?_) ?_
          · skip
            refine step_conv rfl _ rfl D ((putL P).length) f (putL P) rfl HD13.out.r ?_
            refine hK.out _ _ hst13 (fun hh1 => ?_)
            clear hK K
            refine wpAnyH_ready (rs := [6]) (by kernel_rfl) (by simp) ?_
            refine AllReadyH.cons (o := { dst := some 52, op := Op.call { callee := Callee.value (Operand.func 24), args := #[Operand.tmp 51], argTypes := #[46] }, type := 37, pos := "law.go:42", after := #[{ on := 5, ground := Ground.data }, { on := 2, ground := Ground.chain }, { on := 2, ground := Ground.guard }], guard := some (2, true) }) rfl (fun K hK => ?_) ?_
            · skip
              go_simp
              refine (prput P hP HMB.out (by omega) (by omega) _ (HA5.out.below hh1.below) (HBd5.out.below hh1.below)).mono ?_
              rintro e ww4 ⟨An5, cn5, rfl, hrn5, hb3⟩
              have hv6 := Lib.hid (HD13.out.below hb3)
              have HFn5 := Lib.hid hrn5
              refine hK.out _ _ (hh1.call hb3) (fun hh2 => ?_)
              clear hK K
              refine wpAnyH_ready (rs := [7]) (by kernel_rfl) (by simp) ?_
              refine AllReadyH.cons (o := { dst := some 53, op := Op.convert 37 9 (Operand.tmp 52), type := 9, pos := "law.go:42", after := #[{ on := 6, ground := Ground.data }, { on := 2, ground := Ground.guard }], guard := some (2, true) }) rfl (fun K hK => ?_) ?_
              · skip
                refine step_conv rfl _ rfl An5 ((putL P).length) cn5 (putL P) rfl HFn5.out.r ?_
                refine hK.out _ _ hh2 (fun hh7 => ?_)
                clear hK K
                refine wpAnyH_take (i := 8) (oi := { dst := some 54, op := Op.binOp BinOp.eql 9 (Operand.tmp 50) (Operand.tmp 53) 9, type := 4, pos := "law.go:42", after := #[{ on := 4, ground := Ground.data }, { on := 7, ground := Ground.data }, { on := 2, ground := Ground.guard }], guard := some (2, true) }) (v := .bool true) rfl (by kernel_rfl) (by kernel_rfl) (by kernel_rfl) (fun _ _ _ h => h) (Or.inl ⟨by rfl, fun w' _ => eqS rfl rfl⟩) hh7 ?_
                simp only [Act.put, List.setIfInBounds_toArray, List.set_cons_zero, List.set_cons_succ]
                refine wpAnyH_take (i := 9) (oi := { dst := some 55, op := Op.pick (Operand.tmp 48) (Operand.tmp 54) (Operand.const (Value.bool false)), type := 4, pos := "law.go:42", after := #[{ on := 2, ground := Ground.data }, { on := 8, ground := Ground.data }], guard := none }) (v := .bool true) rfl (by kernel_rfl) (by kernel_rfl) (by kernel_rfl) (fun _ _ _ h => h) (Or.inl ⟨by rfl, fun w' _ => by rfl⟩) hh7 ?_
                simp only [Act.put, List.setIfInBounds_toArray, List.set_cons_zero, List.set_cons_succ]
                refine wpAnyH_take (i := 10) (oi := { dst := some 2, op := Op.assign (Operand.tmp 55), type := 4, pos := "law.go:42", after := #[{ on := 9, ground := Ground.data }, { on := 6, ground := Ground.chain }, { on := 0, ground := Ground.phase }, { on := 1, ground := Ground.phase }, { on := 2, ground := Ground.phase }, { on := 3, ground := Ground.phase }, { on := 4, ground := Ground.phase }, { on := 5, ground := Ground.phase }, { on := 6, ground := Ground.phase }, { on := 7, ground := Ground.phase }, { on := 8, ground := Ground.phase }, { on := 9, ground := Ground.phase }], guard := none }) (v := .bool true) rfl (by kernel_rfl) (by kernel_rfl) (by kernel_rfl) (fun _ _ _ h => h) (Or.inl ⟨by rfl, fun w' _ => by rfl⟩) hh7 ?_
                simp only [Act.put, List.setIfInBounds_toArray, List.set_cons_zero, List.set_cons_succ]
                refine wpAnyH_done (by kernel_rfl) ?_ _
                have HZ := Lib.hid hh7
                go_wp2_with fail
                go_ret
                exact ⟨rfl, HB5.out.trans (HZ.out.below.mono HB5.out.size)⟩
              exact AllReadyH.nil
            exact AllReadyH.nil
          refine AllReadyH.cons (o := { dst := some 52, op := Op.call { callee := Callee.value (Operand.func 24), args := #[Operand.tmp 51], argTypes := #[46] }, type := 37, pos := "law.go:42", after := #[{ on := 5, ground := Ground.data }, { on := 2, ground := Ground.chain }, { on := 2, ground := Ground.guard }], guard := some (2, true) }) rfl (fun K hK => ?_) ?_
          · skip
            go_simp
            refine (prput P hP HMB.out (by omega) (by omega) _ (HA5.out.below hst13.below) (HBd5.out.below hst13.below)).mono ?_
            rintro e ww10 ⟨An11, cn11, rfl, hrn11, hb9⟩
            have hv12 := Lib.hid (HD13.out.below hb9)
            have HFn11 := Lib.hid hrn11
            refine hK.out _ _ (hst13.call hb9) (fun hh8 => ?_)
            clear hK K
            refine wpAnyH_ready (rs := [4, 7]) (by kernel_rfl) (by simp) ?_
            refine AllReadyH.cons (o := { dst := some 50, op := Op.convert 37 9 (Operand.tmp 49), type := 9, pos := "law.go:42", after := #[{ on := 3, ground := Ground.data }, { on := 2, ground := Ground.guard }], guard := some (2, true) }) rfl (fun K hK => ?_) ?_
            · skip
              refine step_conv rfl _ rfl D ((putL P).length) f (putL P) rfl hv12.out.r ?_
              refine hK.out _ _ hh8 (fun hh13 => ?_)
              clear hK K
              refine wpAnyH_ready (rs := [7]) (by kernel_rfl) (by simp) ?_
              refine AllReadyH.cons (o := { dst := some 53, op := Op.convert 37 9 (Operand.tmp 52), type := 9, pos := "law.go:42", after := #[{ on := 6, ground := Ground.data }, { on := 2, ground := Ground.guard }], guard := some (2, true) }) rfl (fun K hK => ?_) ?_
              · skip
                refine step_conv rfl _ rfl An11 ((putL P).length) cn11 (putL P) rfl HFn11.out.r ?_
                refine hK.out _ _ hh13 (fun hh14 => ?_)
                clear hK K
                refine wpAnyH_take (i := 8) (oi := { dst := some 54, op := Op.binOp BinOp.eql 9 (Operand.tmp 50) (Operand.tmp 53) 9, type := 4, pos := "law.go:42", after := #[{ on := 4, ground := Ground.data }, { on := 7, ground := Ground.data }, { on := 2, ground := Ground.guard }], guard := some (2, true) }) (v := .bool true) rfl (by kernel_rfl) (by kernel_rfl) (by kernel_rfl) (fun _ _ _ h => h) (Or.inl ⟨by rfl, fun w' _ => eqS rfl rfl⟩) hh14 ?_
                simp only [Act.put, List.setIfInBounds_toArray, List.set_cons_zero, List.set_cons_succ]
                refine wpAnyH_take (i := 9) (oi := { dst := some 55, op := Op.pick (Operand.tmp 48) (Operand.tmp 54) (Operand.const (Value.bool false)), type := 4, pos := "law.go:42", after := #[{ on := 2, ground := Ground.data }, { on := 8, ground := Ground.data }], guard := none }) (v := .bool true) rfl (by kernel_rfl) (by kernel_rfl) (by kernel_rfl) (fun _ _ _ h => h) (Or.inl ⟨by rfl, fun w' _ => by rfl⟩) hh14 ?_
                simp only [Act.put, List.setIfInBounds_toArray, List.set_cons_zero, List.set_cons_succ]
                refine wpAnyH_take (i := 10) (oi := { dst := some 2, op := Op.assign (Operand.tmp 55), type := 4, pos := "law.go:42", after := #[{ on := 9, ground := Ground.data }, { on := 6, ground := Ground.chain }, { on := 0, ground := Ground.phase }, { on := 1, ground := Ground.phase }, { on := 2, ground := Ground.phase }, { on := 3, ground := Ground.phase }, { on := 4, ground := Ground.phase }, { on := 5, ground := Ground.phase }, { on := 6, ground := Ground.phase }, { on := 7, ground := Ground.phase }, { on := 8, ground := Ground.phase }, { on := 9, ground := Ground.phase }], guard := none }) (v := .bool true) rfl (by kernel_rfl) (by kernel_rfl) (by kernel_rfl) (fun _ _ _ h => h) (Or.inl ⟨by rfl, fun w' _ => by rfl⟩) hh14 ?_
                simp only [Act.put, List.setIfInBounds_toArray, List.set_cons_zero, List.set_cons_succ]
                refine wpAnyH_done (by kernel_rfl) ?_ _
                have HZ := Lib.hid hh14
                go_wp2_with fail
                go_ret
                exact ⟨rfl, HB5.out.trans (HZ.out.below.mono HB5.out.size)⟩
              exact AllReadyH.nil
            refine AllReadyH.cons (o := { dst := some 53, op := Op.convert 37 9 (Operand.tmp 52), type := 9, pos := "law.go:42", after := #[{ on := 6, ground := Ground.data }, { on := 2, ground := Ground.guard }], guard := some (2, true) }) rfl (fun K hK => ?_) ?_
            · skip
              refine step_conv rfl _ rfl An11 ((putL P).length) cn11 (putL P) rfl HFn11.out.r ?_
              refine hK.out _ _ hh8 (fun hh15 => ?_)
              clear hK K
              refine wpAnyH_ready (rs := [4]) (by kernel_rfl) (by simp) ?_
              refine AllReadyH.cons (o := { dst := some 50, op := Op.convert 37 9 (Operand.tmp 49), type := 9, pos := "law.go:42", after := #[{ on := 3, ground := Ground.data }, { on := 2, ground := Ground.guard }], guard := some (2, true) }) rfl (fun K hK => ?_) ?_
              · skip
                refine step_conv rfl _ rfl D ((putL P).length) f (putL P) rfl hv12.out.r ?_
                refine hK.out _ _ hh15 (fun hh16 => ?_)
                clear hK K
                refine wpAnyH_take (i := 8) (oi := { dst := some 54, op := Op.binOp BinOp.eql 9 (Operand.tmp 50) (Operand.tmp 53) 9, type := 4, pos := "law.go:42", after := #[{ on := 4, ground := Ground.data }, { on := 7, ground := Ground.data }, { on := 2, ground := Ground.guard }], guard := some (2, true) }) (v := .bool true) rfl (by kernel_rfl) (by kernel_rfl) (by kernel_rfl) (fun _ _ _ h => h) (Or.inl ⟨by rfl, fun w' _ => eqS rfl rfl⟩) hh16 ?_
                simp only [Act.put, List.setIfInBounds_toArray, List.set_cons_zero, List.set_cons_succ]
                refine wpAnyH_take (i := 9) (oi := { dst := some 55, op := Op.pick (Operand.tmp 48) (Operand.tmp 54) (Operand.const (Value.bool false)), type := 4, pos := "law.go:42", after := #[{ on := 2, ground := Ground.data }, { on := 8, ground := Ground.data }], guard := none }) (v := .bool true) rfl (by kernel_rfl) (by kernel_rfl) (by kernel_rfl) (fun _ _ _ h => h) (Or.inl ⟨by rfl, fun w' _ => by rfl⟩) hh16 ?_
                simp only [Act.put, List.setIfInBounds_toArray, List.set_cons_zero, List.set_cons_succ]
                refine wpAnyH_take (i := 10) (oi := { dst := some 2, op := Op.assign (Operand.tmp 55), type := 4, pos := "law.go:42", after := #[{ on := 9, ground := Ground.data }, { on := 6, ground := Ground.chain }, { on := 0, ground := Ground.phase }, { on := 1, ground := Ground.phase }, { on := 2, ground := Ground.phase }, { on := 3, ground := Ground.phase }, { on := 4, ground := Ground.phase }, { on := 5, ground := Ground.phase }, { on := 6, ground := Ground.phase }, { on := 7, ground := Ground.phase }, { on := 8, ground := Ground.phase }, { on := 9, ground := Ground.phase }], guard := none }) (v := .bool true) rfl (by kernel_rfl) (by kernel_rfl) (by kernel_rfl) (fun _ _ _ h => h) (Or.inl ⟨by rfl, fun w' _ => by rfl⟩) hh16 ?_
                simp only [Act.put, List.setIfInBounds_toArray, List.set_cons_zero, List.set_cons_succ]
                refine wpAnyH_done (by kernel_rfl) ?_ _
                have HZ := Lib.hid hh16
                go_wp2_with fail
                go_ret
                exact ⟨rfl, HB5.out.trans (HZ.out.below.mono HB5.out.size)⟩
              exact AllReadyH.nil
            exact AllReadyH.nil
          exact AllReadyH.nil
        exact AllReadyH.nil
      exact AllReadyH.nil
    exact AllReadyH.nil
  exact AllReadyH.nil
set_option maxHeartbeats 4000000 in
theorem puts_walk (w : World) (P : Pk) (A : Option Addr) (c : Nat) (B : Option Addr) (d : Nat) (hP : P.ok) (hA : Rd w A c P.mac) (hB : Rd w B d P.body) :
    Calls Try.prog 7 #[.agg (pkc P A c B d)] w fun e w' => e = .returned (.bool true) ∧ Below w.heap.size w w' := by
  by_cases h1 : P.body.length ≤ 3000
  · by_cases h2 : P.mac.length ≤ 100
    · cases hmb : mayB P
      · exact puts_no w P hP hA hB hmb h1 h2
      · exact puts_yes w P hP hA hB hmb h1 h2
    · have i0 : (P.body.length : Int) ≤ 3000 := by omega
      have i1 : (100 : Int) < (P.mac.length : Int) := by omega
      go_enter Try.func7, Try.ntmps7
      go_wp2_with fail
      with_reducible refine (awake_any _).mono ?_
      rintro e w1 ⟨rfl, hb⟩
      have H1 : Hid (w1.heap[w.heap.size]? = some (.cells (pkc P A c B d) 45 (0, 0))) := (hb.block _ (by simp)).trans (heap_alloc_new w _)
      have HB1 : Hid (Below w.heap.size w w1) := Below.trans ((Below.refl _ _).alloc (Nat.le_refl _) _) (hb.mono (by simp))
      have q8 : w1.cell? ⟨w.heap.size, 8, none⟩ = some (.slice B P.body.length d) := (blk_cell H1.out 8).trans rfl
      have q6 : w1.cell? ⟨w.heap.size, 6, none⟩ = some (.slice A P.mac.length c) := (blk_cell H1.out 6).trans rfl
      clear hb
      go_wp2
      go_ret
      exact ⟨rfl, HB1.out⟩
  · have i0 : (3000 : Int) < (P.body.length : Int) := by omega
    go_enter Try.func7, Try.ntmps7
    go_wp2_with fail
    with_reducible refine (awake_any _).mono ?_
    rintro e w1 ⟨rfl, hb⟩
    have H1 : Hid (w1.heap[w.heap.size]? = some (.cells (pkc P A c B d) 45 (0, 0))) := (hb.block _ (by simp)).trans (heap_alloc_new w _)
    have HB1 : Hid (Below w.heap.size w w1) := Below.trans ((Below.refl _ _).alloc (Nat.le_refl _) _) (hb.mono (by simp))
    have q8 : w1.cell? ⟨w.heap.size, 8, none⟩ = some (.slice B P.body.length d) := (blk_cell H1.out 8).trans rfl
    have q6 : w1.cell? ⟨w.heap.size, 6, none⟩ = some (.slice A P.mac.length c) := (blk_cell H1.out 6).trans rfl
    clear hb
    go_wp2
    go_ret
    exact ⟨rfl, HB1.out⟩
end Go.Proofs.Ytkcjgkfgjbhfnaa
