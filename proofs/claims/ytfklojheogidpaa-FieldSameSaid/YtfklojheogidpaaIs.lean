import Derived.Test.YtfklojheogidpaaLaw3
import Derived.Test.YtfklojheogidpaaInvert
import Derived.Laws.BytesArg
set_option linter.unusedVariables false
set_option linter.unusedSimpArgs false
namespace Go.Proofs.Ytfklojheogidpaa
open Go.RowKit Go.Proofs.YtfklojheogidpaaW.PrintWords Go.Proofs.YtfklojheogidpaaW.PrintLast Go.Proofs.YtfklojheogidpaaW.PrintMore

/-! ### Bytes as a string -/
theorem conv_C {w : World} {A : Option Addr} {n c : Nat} {l : List Int} (h : Kd.C (Kd.int .u8) w A n l) : (convert 22 9 (.slice A n c)).run Try.prog w = .ok (.string (strOfNums l)) w := by
  have hr := Kd.reads_of_C (d := (0 : Int)) h
  rw [run_convert_bytes_string w 22 9 5 A n c Try.underlying22 Try.underlying5 Try.underlying9]
  have hlen := hr.1
  rcases Nat.eq_zero_or_pos n with h0 | hp
  · have hl0 : l = [] := List.eq_nil_of_length_eq_zero (by omega)
    subst hl0 h0
    cases A with
    | none => simp [Conv.bytesToString, strOfNums]; rfl
    | some ad => exact run_bytesToString w ad 0 c [] (by rfl)
  · obtain ⟨ad, rfl, hc⟩ := hr.2.2 hp
    have hl : (loadCells ad n).run Try.prog w = .ok (l.map (Value.int .u8)).toArray w := by
      have := run_loadCells_list (P := Try.prog) w ad (l.map (Value.int .u8)) (fun j v hj => by
        have hjl : j < l.length := by
          rcases Nat.lt_or_ge j l.length with h | h
          · exact h
          · simp [List.getElem?_eq_none (show (l.map (Value.int .u8)).length ≤ j by simpa using h)] at hj
        rw [hc j (by omega)]
        simp [List.getElem?_eq_getElem hjl] at hj
        subst hj
        simp [List.getD, List.getElem?_eq_getElem hjl])
      simpa [hlen] using this
    rw [run_bytesToString w _ n c l hl, foldl_push_bytes]
    simp [strOfNums, ByteArray.empty, ByteArray.emptyWithCapacity]
    rfl
theorem strOfNums_inj {l m : List Int} (hl : Bytes l) (hm : Bytes m) (h : strOfNums l = strOfNums m) : l = m := by
  have h1 : l.map (fun n => UInt8.ofNat n.toNat) = m.map (fun n => UInt8.ofNat n.toNat) := by
    have := congrArg (fun b : ByteArray => b.data.toList) h
    simpa [strOfNums_data] using this
  have hid : ∀ l : List Int, Bytes l → (l.map (fun n => UInt8.ofNat n.toNat)).map (fun b => (b.toNat : Int)) = l := by
    intro l hl
    rw [List.map_map]
    refine (List.map_congr_left (fun x hx => ?_)).trans (List.map_id l)
    have := hl x hx
    simp
    omega
  rw [← hid l hl, ← hid m hm, h1]
theorem D_inj {u v : Int} (h : D u = D v) : u % PP = v % PP := by
  have := congrArg bval h
  rwa [D_val, D_val] at this
theorem eql9 (v u : Int) (w : World) : (binOp .eql 9 (.string (strOfNums (D v))) (.string (strOfNums (D u)))).run Try.prog w = .ok (.bool (decide (v % PP = u % PP))) w := by
  have e : ((strOfNums (D v)).toList == (strOfNums (D u)).toList) = decide (v % PP = u % PP) := by
    rw [Bool.eq_iff_iff, beq_iff_eq, decide_eq_true_iff, ByteArray.toList_eq, ByteArray.toList_eq]
    exact ⟨fun h => D_inj (strOfNums_inj (D_bytes v) (D_bytes u) (ByteArray.ext (Array.toList_inj.1 h))), fun h => by rw [D_eq h]⟩
  rw [binOp_string_eql, e]
  rfl
section
variable {ops : Array Oper} {o : Oper} {a : Act} {w : World} {K : Act → World → Prop} {Q : Exit → Act → World → Prop} {X : Prop}
theorem step_conv (hw : Region.wanted o (yielded ops a.tmps) = true) (x : Operand) (ho : o.op = .convert 22 9 x) (A : Option Addr) (n c : Nat) (l : List Int) (hx : a.eval x = .slice A n c) (hC : Kd.C (Kd.int .u8) w A n l)
    (h : K (a.put o.dst (.string (strOfNums l))) w) : if Region.wanted o (yielded ops a.tmps) = true then Oper.wp Try.prog o a w K Q else X := by
  rw [if_pos hw]
  have hrun := conv_C (c := c) hC
  unfold Oper.wp
  simp [execOp, ho, hx, hrun]
  exact h
end

theorem str_step {ρ : Operand → Value} {dst : Option Tmp} {ty : TypeId} {pos : String} {aft : Array Edge} {x y : Operand} {w : World} {s t : ByteArray} {b : Value} (h : (binOp .eql 9 (.string s) (.string t)).run Try.prog w = .ok b w) (hx : ρ x = .string s) (hy : ρ y = .string t) :
    (execOp ρ { dst := dst, op := .binOp .eql 9 x y 9, type := ty, pos := pos, after := aft, guard := none }).run Try.prog w = .ok (.value b) w := by
  simp only [execOp, hx, hy]
  simp [eqGuard, h]

/-! ### is -/
set_option maxHeartbeats 2000000 in
theorem is_any (v u : Int) (h : 0 ≤ v ∧ v < BB) (A : Option Addr) (c : Nat) (w : World) (hr : Kd.C (Kd.int .i64) w A 32 (D u)) (hc : 32 ≤ c) :
    Calls Try.prog 21 #[.agg (E v), .slice A 32 c] w fun e w' => e = .returned (.bool (decide (v % PP = u % PP))) ∧ Below w.heap.size w w' := by
  have HV := Lib.hid h
  have HR := Lib.hid hr
  have HC := Lib.hid hc
  clear h hr hc
  obtain ⟨ke, hke⟩ := Encode_ok u
  have HE := Lib.hid (hke ke (Nat.le_refl _))
  clear hke
  have HL : ∀ x, Hid ((D x).length = 32) := fun x => D_length x
  have hcall : ∀ w', Kd.C (Kd.int .i64) w' A 32 (D u) → Calls Try.prog 40 #[.slice A 32 c] w' fun e w2 => ∃ v0_ : Value, e = .returned v0_ ∧ Kd.R (Kd.int .u8) 5 w2 w'.heap.size (fun _ => True) v0_ (D u) ∧ Below w'.heap.size w' w2 := fun w' h' => by
    have := Ref.redanref05_Encode.calls ke A c (D u) (D u) w' (by rw [D_length]; exact h') (by rw [D_length]; exact HC.out) HE.out
    rwa [D_length] at this
  have HCALL := Lib.hid hcall
  clear hcall
  go_enter Try.func21, Try.ntmps21
  go_upto_region 0 with fail
  go_cut [2, 4] (fun s2 s4 wx => s2 = .pointer (some ⟨w.heap.size, 0, none⟩) ∧ s4 = .bool false ∧ HS w [(w.heap.size, lim v)] [] wx)
  case first =>
    go_wp2_with fail
    go_meet
    refine ⟨rfl, rfl, (Below.refl w.heap.size w).alloc (Nat.le_refl _) _, fun x hx => ?_, fun g hg => by cases hg⟩
    simp only [List.mem_cons, List.not_mem_nil, or_false] at hx
    subst hx
    exact ⟨Nat.le_refl _, heap_alloc_new w _⟩
  case rest =>
    obtain ⟨rfl, rfl, hS⟩ := hcut
    have HSH := Lib.hid hS
    clear hS
    go_upto_region 1 with fail
    refine wp_region_held_drew (S := HS w [(w.heap.size, lim v)] []) (by kernel_rfl) HSH.out.drew (fun hst => ?_)
    refine wpAnyH_take (i := 0) (oi := { dst := some 5, op := Op.load 27 (Operand.tmp 2), type := 27, pos := "law.go:26", after := #[], guard := none }) (v := .agg (Ls (lim v))) rfl (by kernel_rfl) (by kernel_rfl) (by kernel_rfl) (fun _ _ _ h => h) (yload (by rfl) _ rfl w.heap.size (lim v) rfl (by simp) rfl) hst ?_
    simp only [Act.put, List.setIfInBounds_toArray, List.set_cons_zero, List.set_cons_succ]
    refine wpAnyH_take (i := 3) (oi := { dst := some 8, op := Op.move (Operand.tmp 1), type := 29, pos := "law.go:26", after := #[], guard := none }) (v := .slice A 32 c) rfl (by kernel_rfl) (by kernel_rfl) (by kernel_rfl) (fun _ _ _ h => h) (Or.inl ⟨by rfl, fun w' _ => by rfl⟩) hst ?_
    simp only [Act.put, List.setIfInBounds_toArray, List.set_cons_zero, List.set_cons_succ]
    refine wpAnyH_ready (rs := [1]) (by kernel_rfl) (by simp) ?_
    refine AllReadyH.cons (o := { dst := some 6, op := Op.call { callee := Callee.value (Operand.func 39), args := #[Operand.tmp 5], argTypes := #[27] }, type := 22, pos := "law.go:26", after := #[{ on := 0, ground := Ground.data }], guard := none }) rfl (fun K hK => ?_) ?_
    · go_simp
      refine (encode_any v HV.out.1 HV.out.2 _).mono ?_
      rintro e w2 ⟨v3, rfl, ho, hb⟩
      obtain ⟨A3, c3, ec⟩ := Kd.R_slice ho
      subst ec
      have HN := Lib.hid (Kd.R_reads' ho).2.2
      refine hK.out _ _ (hst.call hb) (fun h2 => ?_)
      clear hK K ho hb
      refine wpAnyH_ready (rs := [2, 4]) (by kernel_rfl) (by simp) ?_
      refine AllReadyH.cons (o := { dst := some 7, op := Op.convert 22 9 (Operand.tmp 6), type := 9, pos := "law.go:26", after := #[{ on := 1, ground := Ground.data }], guard := none }) rfl (fun K hK => ?_) ?_
      · refine step_conv rfl _ rfl A3 _ c3 (bytesN 32 (v % PP)) rfl HN.out ?_
        refine hK.out _ _ h2 (fun h2b => ?_)
        clear hK K
        refine wpAnyH_ready (rs := [4]) (by kernel_rfl) (by simp) ?_
        refine AllReadyH.cons (o := { dst := some 9, op := Op.call { callee := Callee.value (Operand.func 40), args := #[Operand.tmp 8], argTypes := #[29] }, type := 22, pos := "law.go:26", after := #[{ on := 3, ground := Ground.data }, { on := 1, ground := Ground.chain }], guard := none }) rfl (fun K hK => ?_) ?_
        · go_simp
          refine (HCALL.out _ (Kd.C_below HR.out h2b.below)).mono ?_
          rintro e w3 ⟨v4, rfl, ho, hb⟩
          obtain ⟨A4, c4, ec⟩ := Kd.R_slice ho
          subst ec
          have HM := Lib.hid (Kd.R_reads' ho).2.2
          refine hK.out _ _ (h2b.call hb) (fun h3 => ?_)
          clear hK K ho hb
          refine wpAnyH_ready (rs := [5]) (by kernel_rfl) (by simp) ?_
          refine AllReadyH.cons (o := { dst := some 10, op := Op.convert 22 9 (Operand.tmp 9), type := 9, pos := "law.go:26", after := #[{ on := 4, ground := Ground.data }], guard := none }) rfl (fun K hK => ?_) ?_
          · refine step_conv rfl _ rfl A4 _ c4 (D u) rfl HM.out ?_
            refine hK.out _ _ h3 (fun h4 => ?_)
            clear hK K
            refine wpAnyH_take (i := 6) (oi := { dst := some 11, op := Op.binOp BinOp.eql 9 (Operand.tmp 7) (Operand.tmp 10) 9, type := 4, pos := "law.go:26", after := #[{ on := 2, ground := Ground.data }, { on := 5, ground := Ground.data }], guard := none }) (v := .bool (decide (v % PP = u % PP))) rfl (by kernel_rfl) (by kernel_rfl) (by kernel_rfl) (fun _ _ _ h => h) (Or.inl ⟨by rfl, fun w' _ => str_step (eql9 v u w') rfl rfl⟩) h4 ?_
            simp only [Act.put, List.setIfInBounds_toArray, List.set_cons_zero, List.set_cons_succ]
            refine wpAnyH_take (i := 7) (oi := { dst := some 4, op := Op.assign (Operand.tmp 11), type := 4, pos := "law.go:26", after := #[{ on := 6, ground := Ground.data }, { on := 4, ground := Ground.chain }, { on := 0, ground := Ground.phase }, { on := 1, ground := Ground.phase }, { on := 2, ground := Ground.phase }, { on := 3, ground := Ground.phase }, { on := 4, ground := Ground.phase }, { on := 5, ground := Ground.phase }, { on := 6, ground := Ground.phase }], guard := none }) (v := .bool (decide (v % PP = u % PP))) rfl (by kernel_rfl) (by kernel_rfl) (by kernel_rfl) (fun _ _ _ h => h) (Or.inl ⟨by rfl, fun w' _ => by rfl⟩) h4 ?_
            simp only [Act.put, List.setIfInBounds_toArray, List.set_cons_zero, List.set_cons_succ]
            refine wpAnyH_done (by kernel_rfl) ?_ _
            go_wp2_with fail
            go_ret
            exact ⟨rfl, h4.below⟩
          exact AllReadyH.nil
        exact AllReadyH.nil
      refine AllReadyH.cons (o := { dst := some 9, op := Op.call { callee := Callee.value (Operand.func 40), args := #[Operand.tmp 8], argTypes := #[29] }, type := 22, pos := "law.go:26", after := #[{ on := 3, ground := Ground.data }, { on := 1, ground := Ground.chain }], guard := none }) rfl (fun K hK => ?_) ?_
      · go_simp
        refine (HCALL.out _ (Kd.C_below HR.out h2.below)).mono ?_
        rintro e w3 ⟨v4, rfl, ho, hb⟩
        have HN2 := Lib.hid (Kd.C_below HN.out hb)
        obtain ⟨A4, c4, ec⟩ := Kd.R_slice ho
        subst ec
        have HM := Lib.hid (Kd.R_reads' ho).2.2
        refine hK.out _ _ (h2.call hb) (fun h3 => ?_)
        clear hK K ho hb
        refine wpAnyH_ready (rs := [2, 5]) (by kernel_rfl) (by simp) ?_
        refine AllReadyH.cons (o := { dst := some 7, op := Op.convert 22 9 (Operand.tmp 6), type := 9, pos := "law.go:26", after := #[{ on := 1, ground := Ground.data }], guard := none }) rfl (fun K hK => ?_) ?_
        · refine step_conv rfl _ rfl A3 _ c3 (bytesN 32 (v % PP)) rfl HN2.out ?_
          refine hK.out _ _ h3 (fun h4 => ?_)
          clear hK K
          refine wpAnyH_ready (rs := [5]) (by kernel_rfl) (by simp) ?_
          refine AllReadyH.cons (o := { dst := some 10, op := Op.convert 22 9 (Operand.tmp 9), type := 9, pos := "law.go:26", after := #[{ on := 4, ground := Ground.data }], guard := none }) rfl (fun K hK => ?_) ?_
          · refine step_conv rfl _ rfl A4 _ c4 (D u) rfl HM.out ?_
            refine hK.out _ _ h4 (fun h5 => ?_)
            clear hK K
            refine wpAnyH_take (i := 6) (oi := { dst := some 11, op := Op.binOp BinOp.eql 9 (Operand.tmp 7) (Operand.tmp 10) 9, type := 4, pos := "law.go:26", after := #[{ on := 2, ground := Ground.data }, { on := 5, ground := Ground.data }], guard := none }) (v := .bool (decide (v % PP = u % PP))) rfl (by kernel_rfl) (by kernel_rfl) (by kernel_rfl) (fun _ _ _ h => h) (Or.inl ⟨by rfl, fun w' _ => str_step (eql9 v u w') rfl rfl⟩) h5 ?_
            simp only [Act.put, List.setIfInBounds_toArray, List.set_cons_zero, List.set_cons_succ]
            refine wpAnyH_take (i := 7) (oi := { dst := some 4, op := Op.assign (Operand.tmp 11), type := 4, pos := "law.go:26", after := #[{ on := 6, ground := Ground.data }, { on := 4, ground := Ground.chain }, { on := 0, ground := Ground.phase }, { on := 1, ground := Ground.phase }, { on := 2, ground := Ground.phase }, { on := 3, ground := Ground.phase }, { on := 4, ground := Ground.phase }, { on := 5, ground := Ground.phase }, { on := 6, ground := Ground.phase }], guard := none }) (v := .bool (decide (v % PP = u % PP))) rfl (by kernel_rfl) (by kernel_rfl) (by kernel_rfl) (fun _ _ _ h => h) (Or.inl ⟨by rfl, fun w' _ => by rfl⟩) h5 ?_
            simp only [Act.put, List.setIfInBounds_toArray, List.set_cons_zero, List.set_cons_succ]
            refine wpAnyH_done (by kernel_rfl) ?_ _
            go_wp2_with fail
            go_ret
            exact ⟨rfl, h5.below⟩
          exact AllReadyH.nil
        refine AllReadyH.cons (o := { dst := some 10, op := Op.convert 22 9 (Operand.tmp 9), type := 9, pos := "law.go:26", after := #[{ on := 4, ground := Ground.data }], guard := none }) rfl (fun K hK => ?_) ?_
        · refine step_conv rfl _ rfl A4 _ c4 (D u) rfl HM.out ?_
          refine hK.out _ _ h3 (fun h4 => ?_)
          clear hK K
          refine wpAnyH_ready (rs := [2]) (by kernel_rfl) (by simp) ?_
          refine AllReadyH.cons (o := { dst := some 7, op := Op.convert 22 9 (Operand.tmp 6), type := 9, pos := "law.go:26", after := #[{ on := 1, ground := Ground.data }], guard := none }) rfl (fun K hK => ?_) ?_
          · refine step_conv rfl _ rfl A3 _ c3 (bytesN 32 (v % PP)) rfl HN2.out ?_
            refine hK.out _ _ h4 (fun h5 => ?_)
            clear hK K
            refine wpAnyH_take (i := 6) (oi := { dst := some 11, op := Op.binOp BinOp.eql 9 (Operand.tmp 7) (Operand.tmp 10) 9, type := 4, pos := "law.go:26", after := #[{ on := 2, ground := Ground.data }, { on := 5, ground := Ground.data }], guard := none }) (v := .bool (decide (v % PP = u % PP))) rfl (by kernel_rfl) (by kernel_rfl) (by kernel_rfl) (fun _ _ _ h => h) (Or.inl ⟨by rfl, fun w' _ => str_step (eql9 v u w') rfl rfl⟩) h5 ?_
            simp only [Act.put, List.setIfInBounds_toArray, List.set_cons_zero, List.set_cons_succ]
            refine wpAnyH_take (i := 7) (oi := { dst := some 4, op := Op.assign (Operand.tmp 11), type := 4, pos := "law.go:26", after := #[{ on := 6, ground := Ground.data }, { on := 4, ground := Ground.chain }, { on := 0, ground := Ground.phase }, { on := 1, ground := Ground.phase }, { on := 2, ground := Ground.phase }, { on := 3, ground := Ground.phase }, { on := 4, ground := Ground.phase }, { on := 5, ground := Ground.phase }, { on := 6, ground := Ground.phase }], guard := none }) (v := .bool (decide (v % PP = u % PP))) rfl (by kernel_rfl) (by kernel_rfl) (by kernel_rfl) (fun _ _ _ h => h) (Or.inl ⟨by rfl, fun w' _ => by rfl⟩) h5 ?_
            simp only [Act.put, List.setIfInBounds_toArray, List.set_cons_zero, List.set_cons_succ]
            refine wpAnyH_done (by kernel_rfl) ?_ _
            go_wp2_with fail
            go_ret
            exact ⟨rfl, h5.below⟩
          exact AllReadyH.nil
        exact AllReadyH.nil
      exact AllReadyH.nil
    exact AllReadyH.nil

end Go.Proofs.Ytfklojheogidpaa
