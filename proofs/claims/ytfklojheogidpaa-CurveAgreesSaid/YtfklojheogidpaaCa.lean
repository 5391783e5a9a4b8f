import Derived.Test.YtfklojheogidpaaCc
set_option linter.unusedVariables false
set_option linter.unusedSimpArgs false
namespace Go.Proofs.Ytfklojheogidpaa
open Go.RowKit Go.Proofs.YtfklojheogidpaaW.PrintWords Go.Proofs.YtfklojheogidpaaW.PrintLast Go.Proofs.YtfklojheogidpaaW.PrintMore

theorem cEncodeC {x a : Int} (h : N x a) (w : World) : Calls Try.prog 39 #[.agg (Ls (lim x))] w fun e w' => ∃ g c', e = .returned (.slice (some ⟨g, 0, none⟩) 32 c') ∧ Kd.C (Kd.int .u8) w' (some ⟨g, 0, none⟩) 32 (D x) ∧ (32 ≤ c' ∧ w.heap.size ≤ g) ∧ Below w.heap.size w w' := by
  refine (encode_any x h.r.1 h.r.2 w).mono ?_
  rintro e w' ⟨v0, rfl, ho, hb⟩
  have hl : (bytesN 32 (x % PP)).length = 32 := D_length x
  obtain ⟨gb, cap, ev, hge, hgl, _⟩ := Kd.R_form ho (by omega)
  subst ev
  have h2 := (Kd.R_reads' ho).2
  rw [hl] at h2
  exact ⟨gb, cap, by rw [hl], h2.2, ⟨h2.1, hge⟩, hb⟩

/-! ### The step and the turn, in rests -/
theorem NS.step {x z s t u a : Int} {p : St} (h : NS x z s t p) (hu : N u a) : NS (vX x z) (vZ x z) (vS x z s t) (vT u x z s t) (p.step a) := by
  have hs := h.x.add h.z
  have hd := h.x.sub h.z
  have ha := hs.mul hs
  have hb := hd.mul hd
  have he := ha.sub hb
  have hc := hs.mul (h.s.sub h.t)
  have hf := hd.mul (h.s.add h.t)
  exact ⟨(ha.mul hb).mod, (he.mul (ha.add (he.times (n := 121665) (by omega) (by omega)))).mod, ((hc.add hf).mul (hc.add hf)).mod, (hu.mul ((hc.sub hf).mul (hc.sub hf))).mod⟩
theorem NS.turn {x z s t : Int} {p : St} (h : NS x z s t p) (b : Bool) : NS (sw b x s).1 (sw b z t).1 (sw b x s).2 (sw b z t).2 (p.turn b) := by
  cases b
  · exact h
  · exact ⟨h.s, h.t, h.x, h.z⟩

theorem RC.cell {w : World} {g n : Nat} {l : List Int} (h : RC w (some ⟨g, 0, none⟩) n l) (j : Nat) (hj : j < n) : w.cell? ⟨g, j, none⟩ = some (.int .u8 (l.getD j 0)) := by
  obtain ⟨ad, e, hc⟩ := (Kd.reads_of_C (d := (0 : Int)) h.r).2.2 (by omega)
  cases e
  have := hc j hj
  have e : (⟨g, 0, none⟩ : Addr).add j = ⟨g, j, none⟩ := by simp [Addr.add]; intro h; exact h.symm
  rw [e] at this
  exact this

theorem built27u : Try.prog.built 27 [(0, .int .u64 1)] = some (Ls (lim 1)) := by kernel_rfl
theorem built74u : Try.prog.built 74 [(0, .agg (Ls (lim 1)))] = some (Ls (lim 1 ++ lim 0)) := by kernel_rfl
section
variable {ops : Array Oper} {rest : List Oper} {o : Oper} {a : Act} {w : World} {Q : Exit → Act → World → Prop}
theorem build27u (hgd : o.guard = none) (p : Operand) (ho : o.op = .build 27 #[(0, p)]) (hp : a.eval p = .int .u64 1)
    (h : wpList Try.prog ops Q rest (a.put o.dst (.agg (Ls (lim 1)))) w) : wpList Try.prog ops Q (o :: rest) a w :=
  wpList_plain hgd fun _ hK => by
    have := run_build (P := Try.prog) w 27 #[(0, .int .u64 1)] _ built27u
    unfold Oper.wp execOp
    simp [ho, hp, this]
    exact hK _ _ h
theorem build74u (hgd : o.guard = none) (p : Operand) (ho : o.op = .build 74 #[(0, p)]) (hp : a.eval p = .agg (Ls (lim 1)))
    (h : wpList Try.prog ops Q rest (a.put o.dst (.agg (Ls (lim 1 ++ lim 0)))) w) : wpList Try.prog ops Q (o :: rest) a w :=
  wpList_plain hgd fun _ hK => by
    have := run_build (P := Try.prog) w 74 #[(0, .agg (Ls (lim 1)))] _ built74u
    unfold Oper.wp execOp
    simp [ho, hp, this]
    exact hK _ _ h
theorem build74 (hgd : o.guard = none) (p q : Operand) (ho : o.op = .build 74 #[(0, p), (1, q)]) (x z : Int) (hp : a.eval p = .agg (Ls (lim x))) (hq : a.eval q = .agg (Ls (lim z)))
    (h : wpList Try.prog ops Q rest (a.put o.dst (.agg (Ls (lim x ++ lim z)))) w) : wpList Try.prog ops Q (o :: rest) a w :=
  wpList_plain hgd fun _ hK => by
    have := run_build (P := Try.prog) w 74 #[(0, .agg (Ls (lim x))), (1, .agg (Ls (lim z)))] _ (built74 x z)
    unfold Oper.wp execOp
    simp [ho, hp, hq, this]
    exact hK _ _ h
end

theorem step_load76 {ops : Array Oper} {o : Oper} {a : Act} {w : World} {K : Act → World → Prop} {Q : Exit → Act → World → Prop} {X : Prop} (hw : Region.wanted o (yielded ops a.tmps) = true) (x : Operand) (ho : o.op = .load 76 x)
    (g : Nat) (L : List Int) (hx : a.eval x = .pointer (some ⟨g, 0, none⟩)) (hg : w.heap[g]? = some (.cells (Ls L) 76 (0, 0))) (hl : L.length = 16)
    (h : K (a.put o.dst (.agg (Ls L))) w) : if Region.wanted o (yielded ops a.tmps) = true then Oper.wp Try.prog o a w K Q else X := by
  rw [if_pos hw]
  exact wp_load_row 76 x ho g hx 76 (Ls L) (0, 0) _ hg Try.underlying76 rfl (by rw [Ls_size, hl]; exact info76) h
theorem step_store76 {ops : Array Oper} {o : Oper} {a : Act} {w : World} {K : Act → World → Prop} {Q : Exit → Act → World → Prop} {X : Prop} (hw : Region.wanted o (yielded ops a.tmps) = true) (x y : Operand) (ho : o.op = .store 76 x y)
    (g : Nat) (l l0 : List Int) (hx : a.eval x = .pointer (some ⟨g, 0, none⟩)) (hy : a.eval y = .agg (Ls l)) (hg : w.heap[g]? = some (.cells (Ls l0) 76 (0, 0))) (hl0 : l0.length = 16) (hl : l.length = 16)
    (h : K (a.put o.dst undef) (w.setRow g (Ls l))) : if Region.wanted o (yielded ops a.tmps) = true then Oper.wp Try.prog o a w K Q else X := by
  rw [if_pos hw]
  exact wp_store_row 76 x y ho g (Ls l) hx hy 76 (Ls l0) hg (by rw [Ls_size, hl]; exact info76) (by rw [Ls_size, Ls_size, hl, hl0]) (Ls_one l) h
theorem bit_ok (n : List Int) (m : Nat) (y : Int) (hy : n.getD (m / 8) 0 = y) (hy2 : 0 ≤ y ∧ y < 256) : bitAt n m = (bits .and .i64 (wrap64 (y / 2 ^ (m % 8))) 1 == 1) := by
  unfold bitAt
  rw [hy]
  have h8 : m % 8 < 8 := Nat.mod_lt _ (by omega)
  generalize m % 8 = r at h8
  obtain ⟨k, rfl⟩ := Int.eq_ofNat_of_zero_le hy2.1
  have key : ∀ a : Fin 256, ∀ r : Fin 8, (((a.val : Nat) : Int) / 2 ^ r.val % 2 == 1) = (bits .and .i64 (wrap64 (((a.val : Nat) : Int) / 2 ^ r.val)) 1 == 1) := by decide +kernel
  exact key ⟨k, by omega⟩ ⟨r, h8⟩
abbrev q11_0 : Oper := { dst := some 49, op := Op.load 76 (Operand.tmp 9), type := 76, pos := "curve.go:59", after := #[], guard := none }
abbrev q11_1 : Oper := { dst := some 50, op := Op.move (Operand.tmp 12), type := 3, pos := "curve.go:59", after := #[], guard := none }
abbrev q11_2 : Oper := { dst := some 51, op := Op.call { callee := Callee.value (Operand.func 60), args := #[Operand.tmp 49, Operand.tmp 50], argTypes := #[76, 3] }, type := 76, pos := "curve.go:59", after := #[{ on := 0, ground := Ground.data }, { on := 1, ground := Ground.data }], guard := none }
abbrev q11_3 : Oper := { dst := some 52, op := Op.load 27 (Operand.tmp 8), type := 27, pos := "curve.go:59", after := #[], guard := none }
abbrev q11_4 : Oper := { dst := some 53, op := Op.call { callee := Callee.value (Operand.func 61), args := #[Operand.tmp 51, Operand.tmp 52], argTypes := #[76, 27] }, type := 76, pos := "curve.go:59", after := #[{ on := 2, ground := Ground.data }, { on := 3, ground := Ground.data }, { on := 2, ground := Ground.chain }], guard := none }
abbrev q11_5 : Oper := { dst := some 54, op := Op.move (Operand.tmp 12), type := 3, pos := "curve.go:59", after := #[], guard := none }
abbrev q11_6 : Oper := { dst := some 55, op := Op.call { callee := Callee.value (Operand.func 60), args := #[Operand.tmp 53, Operand.tmp 54], argTypes := #[76, 3] }, type := 76, pos := "curve.go:59", after := #[{ on := 4, ground := Ground.data }, { on := 5, ground := Ground.data }, { on := 4, ground := Ground.chain }], guard := none }
abbrev q11_7 : Oper := { dst := none, op := Op.store 76 (Operand.tmp 9) (Operand.tmp 55), type := 0, pos := "curve.go:59", after := #[{ on := 6, ground := Ground.data }, { on := 6, ground := Ground.chain }, { on := 0, ground := Ground.phase }, { on := 1, ground := Ground.phase }, { on := 2, ground := Ground.phase }, { on := 3, ground := Ground.phase }, { on := 4, ground := Ground.phase }, { on := 5, ground := Ground.phase }, { on := 6, ground := Ground.phase }], guard := none }
abbrev q13_0 : Oper := { dst := some 57, op := Op.fieldAddr 76 (Operand.tmp 9) 0, type := 0, pos := "curve.go:61", after := #[], guard := none }
abbrev q13_1 : Oper := { dst := some 58, op := Op.fieldAddr 74 (Operand.tmp 57) 0, type := 0, pos := "curve.go:61", after := #[{ on := 0, ground := Ground.data }], guard := none }
abbrev q13_2 : Oper := { dst := some 59, op := Op.load 27 (Operand.tmp 58), type := 27, pos := "curve.go:61", after := #[{ on := 1, ground := Ground.data }], guard := none }
abbrev q13_3 : Oper := { dst := some 60, op := Op.fieldAddr 76 (Operand.tmp 9) 0, type := 0, pos := "curve.go:61", after := #[], guard := none }
abbrev q13_4 : Oper := { dst := some 61, op := Op.fieldAddr 74 (Operand.tmp 60) 1, type := 0, pos := "curve.go:61", after := #[{ on := 3, ground := Ground.data }], guard := none }
abbrev q13_5 : Oper := { dst := some 62, op := Op.load 27 (Operand.tmp 61), type := 27, pos := "curve.go:61", after := #[{ on := 4, ground := Ground.data }], guard := none }
abbrev q13_6 : Oper := { dst := some 63, op := Op.call { callee := Callee.value (Operand.func 34), args := #[Operand.tmp 62], argTypes := #[27] }, type := 27, pos := "curve.go:61", after := #[{ on := 5, ground := Ground.data }], guard := none }
abbrev q13_7 : Oper := { dst := some 64, op := Op.call { callee := Callee.value (Operand.func 29), args := #[Operand.tmp 59, Operand.tmp 63], argTypes := #[27, 27] }, type := 27, pos := "curve.go:61", after := #[{ on := 2, ground := Ground.data }, { on := 6, ground := Ground.data }, { on := 6, ground := Ground.chain }], guard := none }
abbrev q13_8 : Oper := { dst := some 65, op := Op.call { callee := Callee.value (Operand.func 39), args := #[Operand.tmp 64], argTypes := #[27] }, type := 22, pos := "curve.go:61", after := #[{ on := 7, ground := Ground.data }, { on := 7, ground := Ground.chain }], guard := none }
abbrev q13_9 : Oper := { dst := some 4, op := Op.assign (Operand.tmp 65), type := 22, pos := "curve.go:61", after := #[{ on := 8, ground := Ground.data }, { on := 8, ground := Ground.chain }, { on := 0, ground := Ground.phase }, { on := 1, ground := Ground.phase }, { on := 2, ground := Ground.phase }, { on := 3, ground := Ground.phase }, { on := 4, ground := Ground.phase }, { on := 5, ground := Ground.phase }, { on := 6, ground := Ground.phase }, { on := 7, ground := Ground.phase }, { on := 8, ground := Ground.phase }], guard := none }
abbrev q13_10 : Oper := { dst := some 5, op := Op.assign (Operand.const (Value.int IntKind.i64 0)), type := 53, pos := "curve.go:61", after := #[{ on := 9, ground := Ground.chain }, { on := 0, ground := Ground.phase }, { on := 1, ground := Ground.phase }, { on := 2, ground := Ground.phase }, { on := 3, ground := Ground.phase }, { on := 4, ground := Ground.phase }, { on := 5, ground := Ground.phase }, { on := 6, ground := Ground.phase }, { on := 7, ground := Ground.phase }, { on := 8, ground := Ground.phase }, { on := 9, ground := Ground.phase }], guard := none }

set_option maxHeartbeats 1000000 in
theorem scalar_bad (k u : List Int) (A B : Option Addr) (c d : Nat) (w : World) (hC : Kd.C (Kd.int .u8) w A k.length k) (hc : k.length ≤ c) (hb : Bytes k) (h : ¬ (k.length = 32 ∧ u.length = 32)) :
    Calls Try.prog 42 #[.slice A k.length c, .slice B u.length d] w fun e w' => e = .returned (.tuple #[.slice none 0 0, .int .i64 1]) ∧ Below w.heap.size w w' := by
  by_cases hk : k.length = 32
  · have hu : u.length ≠ 32 := fun e => h ⟨hk, e⟩
    have KC := Lib.hid (clamp_any k A c w (by rw [← hk]; exact hC) (by omega) hb hk)
    rw [hk]
    have hd : decide ((u.length : Int) = 32) = false := decide_eq_false (by omega)
    have hd2 : ¬ ((u.length : Int) = 32) := by omega
    clear hC hc hb h hk
    go_enter Try.func42, Try.ntmps42
    go_wp2_with fail
    refine (KC.out).mono ?_
    rintro e w1 ⟨g, cap, rfl, hO, hB⟩
    have HB := Lib.hid hB
    clear hO hB KC
    go_wp2
    go_ret2
    exact ⟨rfl, HB.out⟩
  · have KC := Lib.hid (clamp_bad k A c w hk)
    clear hC hc hb h hk
    go_enter Try.func42, Try.ntmps42
    go_wp2_with fail
    refine (KC.out).mono ?_
    rintro e w1 ⟨rfl, hB⟩
    have HB := Lib.hid hB
    clear hB KC
    go_wp2
    go_ret2
    exact ⟨rfl, HB.out⟩

set_option maxHeartbeats 4000000 in
set_option maxRecDepth 100000 in
theorem scalar_own (k u : List Int) (A B : Option Addr) (c d : Nat) (w : World) (hC : Kd.C (Kd.int .u8) w A 32 k) (hc : 32 ≤ c) (hb : Bytes k) (hk : k.length = 32) (hD : Kd.C (Kd.int .u8) w B 32 u) (hub : Bytes u) (hu : u.length = 32) :
    Calls Try.prog 42 #[.slice A 32 c, .slice B 32 d] w fun e w' => ∃ g c', e = .returned (.tuple #[.slice (some ⟨g, 0, none⟩) 32 c', .int .i64 0]) ∧ RC w' (some ⟨g, 0, none⟩) 32 (smul k u) ∧ (32 ≤ c' ∧ w.heap.size ≤ g) ∧ Below w.heap.size w w' := by
  have KC := Lib.hid (clamp_any k A c w hC hc hb hk)
  have HD : Hid (RC w B 32 u) := ⟨hD⟩
  have HUB := Lib.hid hub
  have HU := Lib.hid hu
  have HNL : Hid ((clampL k).length = 32) := (clampL_length k).trans hk
  have HNB : Hid (Bytes (clampL k)) := clampL_bytes k hb
  have HN := Lib.hid (N.dec u)
  have er : smul k u = D ((lad (clampL k) (decV u) 255).x * (lad (clampL k) (decV u) 255).z ^ E0) := rfl
  rw [er]
  obtain ⟨n, hn⟩ : ∃ y, clampL k = y := ⟨_, rfl⟩
  rw [hn] at KC HNL HNB ⊢
  clear hC hD hub hu hb hk hc er hn
  go_enter Try.func42, Try.ntmps42
  go_wp2_with fail
  refine (KC.out).mono ?_
  rintro e w1 ⟨gc, cap, rfl, hO, hB⟩
  have HB := Lib.hid hB
  have HO : Hid (RC w1 (some ⟨gc, 0, none⟩) 32 n) := by have := hO.row; rw [HNL.out] at this; exact this
  have HD1 := Lib.hid (HD.out.below hB)
  clear hO hB KC HD
  go_wp2_with fail
  refine (cDecode32 u 32 HU.out HUB.out _ HD1.out.r).mono ?_
  rintro e w2 ⟨rfl, b⟩
  have hS : Hid (LS w1 [] w2) := ⟨b, fun y hy => by cases hy⟩
  clear b HD1
  obtain ⟨uv, huv⟩ : ∃ y, decV u = y := ⟨_, rfl⟩
  rw [huv] at HN ⊢
  go_upto_region 5 with (refine store27 rfl _ _ rfl w2.heap.size (lim uv) [0, 0, 0, 0] rfl rfl hS.out.new rfl rfl ?_)
  obtain ⟨w3, hw3⟩ : ∃ y, (w2.alloc (.cells #[.int .u64 0, .int .u64 0, .int .u64 0, .int .u64 0] 27)).setRow w2.heap.size (Ls (lim uv)) = y := ⟨_, rfl⟩
  rw [hw3]
  have hL : LS w1 [(w2.heap.size, lim uv, 27)] w3 := by rw [← hw3]; exact hS.out.put (lim uv)
  obtain ⟨g8, hg8⟩ : ∃ y, w2.heap.size = y := ⟨_, rfl⟩
  rw [hg8] at hL ⊢
  have HL := Lib.hid hL
  clear hL hw3 hg8 hS
  simp only [Act.put]
  have HK3 : Hid ((w3.alloc (.cells Z16 76)).heap[w3.heap.size]? = some (.cells (Ls (Q4 0 0 0 0)) 76 (0, 0))) := HL.out.newT _
  go_upto_region 6 with (first | (refine load27 rfl _ rfl g8 (lim uv) rfl (HL.out.get g8 (lim uv) 27 (by simp)) rfl ?_) | (refine build27u rfl _ rfl rfl ?_) | (refine build74u rfl _ rfl rfl ?_) | (refine build74 rfl _ _ rfl uv 1 rfl rfl ?_) | (refine build76 rfl _ _ rfl 1 0 uv 1 rfl rfl ?_) | (refine store76 rfl _ _ rfl w3.heap.size (Q4 1 0 uv 1) (Q4 0 0 0 0) rfl rfl HK3.out rfl rfl ?_))
  obtain ⟨w4, hw4⟩ : ∃ y, (w3.alloc (.cells Z16 76)).setRow w3.heap.size (Ls (Q4 1 0 uv 1)) = y := ⟨_, rfl⟩
  rw [hw4]
  have hL : LS w1 [(w3.heap.size, Q4 1 0 uv 1, 76), (g8, lim uv, 27)] w4 := by rw [← hw4]; exact (HL.out.alloc _).row _ HL.out.below.size HL.out.fresh _ |>.add HL.out.below.size (ls_row HK3.out)
  obtain ⟨g9, hg9⟩ : ∃ y, w3.heap.size = y := ⟨_, rfl⟩
  have hne : g8 ≠ g9 := by rw [← hg9]; exact HL.out.fresh (g8, lim uv, 27) (by simp)
  have HNE := Lib.hid hne
  clear hne
  rw [hg9] at hL ⊢
  have HL4 := Lib.hid hL
  clear hL hw4 hg9 HK3 HL
  simp only [Act.put]
  have N1 : Hid (N 1 1) := N.of ⟨by omega, by unfold BB; omega⟩
  go_wp2_with fail
  go_loopw [33] (fun s33 wr => ∃ (i : Nat) (x z s t : Int), i ≤ 255 ∧ s33 = .int .i64 i ∧ NS x z s t (lad n uv i) ∧ LS w1 [(g9, Q4 x z s t, 76), (g8, lim uv, 27)] wr) (fun s33 _ => 255 - (intOf s33).toNat)
  case atStart => exact ⟨0, 1, 0, uv, 1, by omega, rfl, ⟨N1.out, N.zero, HN.out, N1.out⟩, HL4.out⟩
  case round =>
    clear HL4
    obtain ⟨i, x, z, s, t, hi, rfl, hns, hl⟩ := hrel
    have HP := Lib.hid hns
    have HL := Lib.hid hl
    clear hns hl
    by_cases hlt : i < 255
    · go_upto_region 10 with fail
      obtain ⟨m, hm, hm2⟩ : ∃ m : Nat, (254 : Int) - (i : Int) = m ∧ m = 254 - i := ⟨254 - i, by omega, rfl⟩
      rw [hm]
      have hm3 : (m : Int) ≤ 254 := by omega
      have hm4 : m ≤ 254 := by omega
      have HM := Lib.hid hm2
      have HW := Lib.hid (HO.out.below HL.out.below)
      clear hm hm2
      have hc := HW.out.cell (m / 8) (by omega)
      obtain ⟨y, hy⟩ : ∃ y, n.getD (m / 8) 0 = y := ⟨_, rfl⟩
      have hy2 := HNB.out.get (m / 8)
      rw [hy] at hc hy2
      go_upto_region 11 with fail
      have hbt := bit_ok n m y hy hy2
      obtain ⟨bit, hbit⟩ : ∃ v, bits .and .i64 (wrap64 (y / 2 ^ (m % 8))) 1 = v := ⟨_, rfl⟩
      rw [hbit] at hbt ⊢
      clear hbit hy2 hy hc
      have hstep : lad n uv (i + 1) = (((lad n uv i).turn (bitAt n m)).step uv).turn (bitAt n m) := by rw [HM.out]; rfl
      obtain ⟨b, hb⟩ : ∃ v, bitAt n m = v := ⟨_, rfl⟩
      rw [hb] at hbt hstep
      have P1 := HP.out.turn b
      have KT := Lib.hid (fun x z s t W => turned_any bit b hbt x z s t W)
      obtain ⟨x1, hx1⟩ : ∃ v, (sw b x s).1 = v := ⟨_, rfl⟩
      obtain ⟨z1, hz1⟩ : ∃ v, (sw b z t).1 = v := ⟨_, rfl⟩
      obtain ⟨s1, hs1⟩ : ∃ v, (sw b x s).2 = v := ⟨_, rfl⟩
      obtain ⟨t1, ht1⟩ : ∃ v, (sw b z t).2 = v := ⟨_, rfl⟩
      have K1 := Lib.hid (KT.out x z s t)
      rw [hx1, hz1, hs1, ht1] at P1 K1
      have P2 := P1.step HN.out
      have K2 := Lib.hid (fun W => step_any x1 z1 s1 t1 uv P1.x.r P1.z.r P1.s.r P1.t.r HN.out.r W)
      obtain ⟨x2, hx2⟩ : ∃ v, vX x1 z1 = v := ⟨_, rfl⟩
      obtain ⟨z2, hz2⟩ : ∃ v, vZ x1 z1 = v := ⟨_, rfl⟩
      obtain ⟨s2, hs2⟩ : ∃ v, vS x1 z1 s1 t1 = v := ⟨_, rfl⟩
      obtain ⟨t2, ht2⟩ : ∃ v, vT uv x1 z1 s1 t1 = v := ⟨_, rfl⟩
      rw [hx2, hz2, hs2, ht2] at P2 K2
      have P3 := P2.turn b
      have K3 := Lib.hid (KT.out x2 z2 s2 t2)
      obtain ⟨x3, hx3⟩ : ∃ v, (sw b x2 s2).1 = v := ⟨_, rfl⟩
      obtain ⟨z3, hz3⟩ : ∃ v, (sw b z2 t2).1 = v := ⟨_, rfl⟩
      obtain ⟨s3, hs3⟩ : ∃ v, (sw b x2 s2).2 = v := ⟨_, rfl⟩
      obtain ⟨t3, ht3⟩ : ∃ v, (sw b z2 t2).2 = v := ⟨_, rfl⟩
      rw [hx3, hz3, hs3, ht3] at P3 K3
      rw [← hstep] at P3
      have HP3 := Lib.hid P3
      clear P1 P2 P3 hx1 hz1 hs1 ht1 hx2 hz2 hs2 ht2 hx3 hz3 hs3 ht3 hstep hb hbt KT HP
      have HB0 : Hid (Bk w1 [(g8, lim uv, 27)] wr.drew g9 (Q4 x z s t) 76) := ⟨HL.out.drew.get g9 _ 76 (by simp), fun y hy => by simp only [List.mem_cons, List.not_mem_nil, or_false] at hy; subst hy; exact HNE.out, (HL.out.facts (g9, Q4 x z s t, 76) (by simp)).1⟩
      have HS0 : Hid (LS w1 [(g8, lim uv, 27)] wr.drew) := ⟨HL.out.drew.below, fun y hy => HL.out.drew.facts y (List.mem_cons_of_mem _ hy)⟩
      refine wp_region_held_drew (S := LS w1 [(g8, lim uv, 27)]) (by kernel_rfl) HS0.out (fun hst => ?_)
      have b0 := HB0.out
      obtain ⟨wd, hwd⟩ : ∃ y, wr.drew = y := ⟨_, rfl⟩
      rw [hwd] at hst b0 ⊢
      clear hwd HB0 HS0
      refine wpAnyH_take (i := 1) (oi := q11_1) (v := .int .i64 bit) rfl (by kernel_rfl) (by kernel_rfl) (by kernel_rfl) (fun _ _ _ h => h) (Or.inl ⟨by rfl, fun w' _ => by rfl⟩) hst ?_
      unfold q11_1; simp only [Act.put, List.setIfInBounds_toArray, List.set_cons_zero, List.set_cons_succ]
      refine wpAnyH_take (i := 3) (oi := q11_3) (v := .agg (Ls (lim uv))) rfl (by kernel_rfl) (by kernel_rfl) (by kernel_rfl) (fun _ _ _ h => h) (yloadM (by rfl) _ rfl g8 0 (lim uv) (lim uv) 27 rfl (by simp) rfl rfl) hst ?_
      unfold q11_3; simp only [Act.put, List.setIfInBounds_toArray, List.set_cons_zero, List.set_cons_succ]
      refine wpAnyH_take (i := 5) (oi := q11_5) (v := .int .i64 bit) rfl (by kernel_rfl) (by kernel_rfl) (by kernel_rfl) (fun _ _ _ h => h) (Or.inl ⟨by rfl, fun w' _ => by rfl⟩) hst ?_
      unfold q11_5; simp only [Act.put, List.setIfInBounds_toArray, List.set_cons_zero, List.set_cons_succ]
      refine wpAnyH_ready (rs := [0]) (by kernel_rfl) (by simp) ?_
      refine AllReadyH.cons (o := q11_0) rfl (fun K hK => ?_) ?_
      ·
       unfold q11_0; refine step_load76 rfl _ rfl g9 ((Q4 x z s t)) rfl b0.n rfl ?_
       refine hK.out _ _ hst (fun h1 => ?_)
       clear hK K
       refine wpAnyH_ready (rs := [2]) (by kernel_rfl) (by simp) ?_
       refine AllReadyH.cons (o := q11_2) rfl (fun K hK => ?_) ?_
       ·
        unfold q11_2; go_simp; refine (K1.out _).mono ?_; rintro e w2 ⟨rfl, hb⟩
        refine hK.out _ _ (h1.call hb) (fun h2 => ?_)
        have b3 := b0.call hb
        clear hK K hb
        refine wpAnyH_ready (rs := [4]) (by kernel_rfl) (by simp) ?_
        refine AllReadyH.cons (o := q11_4) rfl (fun K hK => ?_) ?_
        ·
         unfold q11_4; go_simp; refine (K2.out _).mono ?_; rintro e w4 ⟨rfl, hb⟩
         refine hK.out _ _ (h2.call hb) (fun h4 => ?_)
         have b5 := b3.call hb
         clear hK K hb
         refine wpAnyH_ready (rs := [6]) (by kernel_rfl) (by simp) ?_
         refine AllReadyH.cons (o := q11_6) rfl (fun K hK => ?_) ?_
         ·
          unfold q11_6; go_simp; refine (K3.out _).mono ?_; rintro e w6 ⟨rfl, hb⟩
          refine hK.out _ _ (h4.call hb) (fun h6 => ?_)
          have b7 := b5.call hb
          clear hK K hb
          refine wpAnyH_ready (rs := [7]) (by kernel_rfl) (by simp) ?_
          refine AllReadyH.cons (o := q11_7) rfl (fun K hK => ?_) ?_
          ·
           unfold q11_7; refine step_store76 rfl _ _ rfl g9 (Q4 x3 z3 s3 t3) (Q4 x z s t) rfl rfl b7.n rfl rfl ?_
           obtain ⟨w9, e1, hl, b10, hc⟩ := LS.wr h6 b7 (Q4 x3 z3 s3 t3); rw [e1]
           refine hK.out _ _ hl (fun h8 => ?_)
           clear hK K e1 hl hc
           refine wpAnyH_done (by kernel_rfl) ?_ _
           have HE := Lib.hid (h8.add b10.z b10.n)
           simp only [Act.put]
           go_wp2_with fail
           go_roundw
           case rel => exact ⟨i + 1, x3, z3, s3, t3, by omega, by go_num, HP3.out, HE.out⟩
           case measure => simp [intOf] <;> omega
          exact AllReadyH.nil
         exact AllReadyH.nil
        exact AllReadyH.nil
       exact AllReadyH.nil
      exact AllReadyH.nil
    · obtain rfl : i = 255 := by omega
      have P := HP.out
      have hfin : D (mulV x (invV z)) = D ((lad n uv 255).x * (lad n uv 255).z ^ E0) := D_eq (P.x.mul P.z.inv).m
      have K1 := Lib.hid (fun W => cInvert P.z W)
      have NI := N.of (P.z.inv).r
      have NM := N.of (P.x.mul P.z.inv).r
      have K2 := Lib.hid (fun W => cMul P.x NI W)
      have K3 := Lib.hid (fun W => cEncodeC NM W)
      obtain ⟨iv, hiv⟩ : ∃ v, invV z = v := ⟨_, rfl⟩
      rw [hiv] at K1 K2 K3 hfin
      obtain ⟨rv, hrv⟩ : ∃ v, mulV x iv = v := ⟨_, rfl⟩
      rw [hrv] at K2 K3 hfin
      have HF := Lib.hid hfin
      clear hrv hiv hfin NI NM P HP
      go_upto_region 13 with fail
      refine wp_region_held_drew (S := LS w1 [(g9, Q4 x z s t, 76), (g8, lim uv, 27)]) (by kernel_rfl) HL.out.drew (fun hst => ?_)
      obtain ⟨wd, hwd⟩ : ∃ y, wr.drew = y := ⟨_, rfl⟩
      rw [hwd] at hst ⊢
      clear hwd HL
      refine wpAnyH_take (i := 0) (oi := q13_0) (v := .pointer (some ⟨g9, 0, none⟩)) rfl (by kernel_rfl) (by kernel_rfl) (by kernel_rfl) (fun _ _ _ h => h) (Or.inl ⟨by rfl, fun w' _ => by rfl⟩) hst ?_
      unfold q13_0; simp only [Act.put, List.setIfInBounds_toArray, List.set_cons_zero, List.set_cons_succ]
      refine wpAnyH_take (i := 1) (oi := q13_1) (v := .pointer (some ⟨g9, 0, none⟩)) rfl (by kernel_rfl) (by kernel_rfl) (by kernel_rfl) (fun _ _ _ h => h) (Or.inl ⟨by rfl, fun w' _ => by rfl⟩) hst ?_
      unfold q13_1; simp only [Act.put, List.setIfInBounds_toArray, List.set_cons_zero, List.set_cons_succ]
      refine wpAnyH_take (i := 2) (oi := q13_2) (v := .agg (Ls (lim x))) rfl (by kernel_rfl) (by kernel_rfl) (by kernel_rfl) (fun _ _ _ h => h) (yloadM (by rfl) _ rfl g9 0 (Q4 x z s t) (lim x) 76 rfl (by simp) rfl (P4_0 (lim_length x) (lim_length z) (lim_length s) (lim_length t))) hst ?_
      unfold q13_2; simp only [Act.put, List.setIfInBounds_toArray, List.set_cons_zero, List.set_cons_succ]
      refine wpAnyH_take (i := 3) (oi := q13_3) (v := .pointer (some ⟨g9, 0, none⟩)) rfl (by kernel_rfl) (by kernel_rfl) (by kernel_rfl) (fun _ _ _ h => h) (Or.inl ⟨by rfl, fun w' _ => by rfl⟩) hst ?_
      unfold q13_3; simp only [Act.put, List.setIfInBounds_toArray, List.set_cons_zero, List.set_cons_succ]
      refine wpAnyH_take (i := 4) (oi := q13_4) (v := .pointer (some ⟨g9, 4, none⟩)) rfl (by kernel_rfl) (by kernel_rfl) (by kernel_rfl) (fun _ _ _ h => h) (Or.inl ⟨by rfl, fun w' _ => by rfl⟩) hst ?_
      unfold q13_4; simp only [Act.put, List.setIfInBounds_toArray, List.set_cons_zero, List.set_cons_succ]
      refine wpAnyH_take (i := 5) (oi := q13_5) (v := .agg (Ls (lim z))) rfl (by kernel_rfl) (by kernel_rfl) (by kernel_rfl) (fun _ _ _ h => h) (yloadM (by rfl) _ rfl g9 4 (Q4 x z s t) (lim z) 76 rfl (by simp) rfl (P4_4 (lim_length x) (lim_length z) (lim_length s) (lim_length t))) hst ?_
      unfold q13_5; simp only [Act.put, List.setIfInBounds_toArray, List.set_cons_zero, List.set_cons_succ]
      refine wpAnyH_ready (rs := [6]) (by kernel_rfl) (by simp) ?_
      refine AllReadyH.cons (o := q13_6) rfl (fun K hK => ?_) ?_
      ·
       unfold q13_6; go_simp; refine (K1.out _).mono ?_; rintro e w1 ⟨rfl, hb⟩
       refine hK.out _ _ (hst.call hb) (fun h1 => ?_)
       clear hK K hb
       refine wpAnyH_ready (rs := [7]) (by kernel_rfl) (by simp) ?_
       refine AllReadyH.cons (o := q13_7) rfl (fun K hK => ?_) ?_
       ·
        unfold q13_7; go_simp; refine (K2.out _).mono ?_; rintro e w2 ⟨rfl, hb⟩
        refine hK.out _ _ (h1.call hb) (fun h2 => ?_)
        clear hK K hb
        refine wpAnyH_ready (rs := [8]) (by kernel_rfl) (by simp) ?_
        refine AllReadyH.cons (o := q13_8) rfl (fun K hK => ?_) ?_
        ·
         unfold q13_8; go_simp; refine (K3.out _).mono ?_; rintro e w9 ⟨g5, c5, rfl, hr, hq, hb⟩
         have HR := Lib.hid hr
         have HQ5 : Hid (32 ≤ c5 ∧ w.heap.size ≤ g5) := ⟨hq.1, Nat.le_trans HB.out.size (Nat.le_trans h2.below.size hq.2)⟩
         clear hr hq
         refine hK.out _ _ (h2.call hb) (fun h3 => ?_)
         clear hK K hb
         refine wpAnyH_take (i := 9) (oi := q13_9) (v := .slice (some ⟨g5, 0, none⟩) 32 c5) rfl (by kernel_rfl) (by kernel_rfl) (by kernel_rfl) (fun _ _ _ h => h) (Or.inl ⟨by rfl, fun w' _ => by rfl⟩) h3 ?_
         unfold q13_9; simp only [Act.put, List.setIfInBounds_toArray, List.set_cons_zero, List.set_cons_succ]
         refine wpAnyH_take (i := 10) (oi := q13_10) (v := .int .i64 0) rfl (by kernel_rfl) (by kernel_rfl) (by kernel_rfl) (fun _ _ _ h => h) (Or.inl ⟨by rfl, fun w' _ => by rfl⟩) h3 ?_
         unfold q13_10; simp only [Act.put, List.setIfInBounds_toArray, List.set_cons_zero, List.set_cons_succ]
         refine wpAnyH_done (by kernel_rfl) ?_ _
         have HE := Lib.hid h3.below
         go_wp2_with fail
         go_ret2
         exact ⟨g5, c5, rfl, ⟨by rw [huv, ← HF.out]; exact HR.out⟩, HQ5.out, HB.out.trans (HE.out.mono HB.out.size)⟩
        exact AllReadyH.nil
       exact AllReadyH.nil
      exact AllReadyH.nil

theorem scalar_any (k u : List Int) (A B : Option Addr) (c d : Nat) (w : World) (hC : Kd.C (Kd.int .u8) w A 32 k) (hc : 32 ≤ c) (hb : Bytes k) (hk : k.length = 32) (hD : Kd.C (Kd.int .u8) w B 32 u) (hub : Bytes u) (hu : u.length = 32) :
    Calls Try.prog 42 #[.slice A 32 c, .slice B 32 d] w fun e w' => ∃ A' c', e = .returned (.tuple #[.slice A' 32 c', .int .i64 0]) ∧ RC w' A' 32 (smul k u) ∧ 32 ≤ c' ∧ Below w.heap.size w w' := by
  refine (scalar_own k u A B c d w hC hc hb hk hD hub hu).mono ?_
  rintro e w' ⟨g, c', rfl, h1, h2, h3⟩
  exact ⟨_, c', rfl, h1, h2.1, h3⟩
theorem RC.far {w : World} {gr n : Nat} {l : List Int} (h : RC w (some ⟨gr, 0, none⟩) n l) {g : Nat} (hne : g ≠ gr) (i : Nat) (v : Value) : RC (w.setCell ⟨g, i, none⟩ v) (some ⟨gr, 0, none⟩) n l := by
  have hr := Kd.reads_of_C (d := (0 : Int)) h.r
  refine ⟨Kd.C_of_reads (d := (0 : Int)) ⟨hr.1, hr.2.1, fun hn => ?_⟩⟩
  obtain ⟨ad, e, hc⟩ := hr.2.2 hn
  cases e
  refine ⟨_, rfl, fun j hj => ?_⟩
  have hb : (Addr.add ⟨gr, 0, none⟩ j).block = gr := by unfold Addr.add; split <;> rfl
  rw [World.cell?_setCell_other (h := fun e => hne ((congrArg Addr.block e).trans hb))]
  exact hc j hj
end Go.Proofs.Ytfklojheogidpaa
