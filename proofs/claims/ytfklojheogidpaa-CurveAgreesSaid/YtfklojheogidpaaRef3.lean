-- contracts that the kit's print wrote for this claim, cut by wip/tools/cutprint.py
import Derived.Test.YtfklojheogidpaaRef2
namespace Go.Proofs.Ytfklojheogidpaa.Ref
open Go.RowKit Go.Proofs.YtfklojheogidpaaW.PrintWords Go.Proofs.YtfklojheogidpaaW.PrintLast Go.Proofs.YtfklojheogidpaaW.PrintMore
attribute [local go_sem] max2_int min2_int max_two min_two max_three min_three max_four min_four   -- for this text's walks alone
set_option linter.unusedVariables false
set_option linter.unusedSimpArgs false


/-! ### redanref05_Encode: function 40 -/
def redanref05_Encode.l0 : Nat → List Int → List Int → Int → Option (List Int)
  | 0, _, _, _ => none
  | k + 1, x0, x3, x4 => if x4 < 32 then (if 0 ≤ x4 then (if x4 < (x0.length : Int) then (if x3.length < 140737488355328 then (redanref05_Encode.l0 k x0 (x3 ++ [(rd x0 x4) % 256]) (wrap64 (x4 + 1))) else (none)) else (none)) else (none)) else (some x3)
def redanref05_Encode.f (k : Nat) (l0 : List Int) : Option (List Int) := redanref05_Encode.l0 k l0 ([] : List Int) 0
theorem redanref05_Encode.mono_l : ∀ k, (∀ y0 y1 y2, LeO (redanref05_Encode.l0 k y0 y1 y2) (redanref05_Encode.l0 (k + 1) y0 y1 y2))
  | 0 => fun _ _ _ r h => by simp [redanref05_Encode.l0] at h
  | k + 1 => by
    have ih0 := redanref05_Encode.mono_l k
    · intro y0 y1 y2
      unfold redanref05_Encode.l0
      repeat' first
      | (with_reducible exact ih0 _ _ _)
      | (with_reducible exact LeO.refl _)
      | (with_reducible exact LeO.none _)
      | (with_reducible refine LeO.ite ?_ ?_)
      | (with_reducible refine LeO.bind ?_ (fun _ => ?_))
      | exact ih0 _ _ _
      | exact LeO.none _
      | refine LeO.ite ?_ ?_
      | refine LeO.bind ?_ (fun _ => ?_)
theorem redanref05_Encode.mono : ∀ a0 k, LeO (redanref05_Encode.f k a0) (redanref05_Encode.f (k + 1) a0) := by
  intro a0 k
  have ih0 := redanref05_Encode.mono_l k
  unfold redanref05_Encode.f
  repeat' first
      | (with_reducible exact ih0 _ _ _)
      | (with_reducible exact LeO.refl _)
      | (with_reducible exact LeO.none _)
      | (with_reducible refine LeO.ite ?_ ?_)
      | (with_reducible refine LeO.bind ?_ (fun _ => ?_))
      | exact ih0 _ _ _
      | exact LeO.none _
      | refine LeO.ite ?_ ?_
      | refine LeO.bind ?_ (fun _ => ?_)
set_option maxHeartbeats 8000000 in
set_option maxRecDepth 100000 in
theorem redanref05_Encode.calls (k : Nat) (A0 : Option Addr) (c0 : Nat) (l0 : List Int) (r : List Int) (w : World) (hr0 : Kd.C (Kd.int .i64) w A0 l0.length l0) (hc0 : l0.length ≤ c0) (h : redanref05_Encode.f k l0 = some r) :
    Calls Try.prog 40 #[.slice A0 l0.length c0] w fun e w' => ∃ v0_ : Value, e = .returned (v0_) ∧ Kd.R (Kd.int .u8) 5 w' w.heap.size (fun _ => True) v0_ r ∧ Below w.heap.size w w' := by
  have HR0 := Aside0.mk hr0
  have HC0 := Aside0.mk hc0
  clear hr0 hc0
  have HB := Aside0.mk (Below.refl w.heap.size w)
  have H : (redanref05_Encode.l0 k l0 ([] : List Int) 0) = some r := h
  clear h
  have H' := Aside0.mk H
  clear H
  go_enter Try.func40, Try.ntmps40
  go_wp2
  go_loopg [3, 4] k (fun kq v3 v4 w' => ∃ (x3_1 : List Int) (x4_1 : Int), v4 = .int .i64 x4_1 ∧ Aside0 (redanref05_Encode.l0 kq l0 x3_1 x4_1 = some r) ∧ Aside0 (kq ≤ k) ∧ Aside0 (Kd.R (Kd.int .u8) 5 w' w.heap.size (fun _ => True) v3 x3_1) ∧ Aside0 (Below w.heap.size w w'))
  case atStart => exact ⟨(([] : List Int)), (0), (by first | rfl | (simp; done) | (simp [*]; done)), H', ⟨Nat.le_refl _⟩, ⟨by first | exact Kd.R_nil _ _ _ _ _ | exact Kd.N_nil _ _ _ _ _ | exact Kd.V_nil _ _ _ _ _ | exact Kd.Q_nil _ _ _ _ _ | exact Kd.S_nil _ _ _ _ _⟩, ⟨by repeat (first | (with_reducible first | exact HB.out | apply below_alloc | apply pw_below_drewN | apply below_drew1) | exact HB.out)⟩⟩
  case round =>
    clear H'
    obtain ⟨x3_1, x4_1, rfl, HA, HK1, HO_3, HB⟩ := hrel
    cases gk with
    | zero => exact absurd HA.out (by simp [redanref05_Encode.l0])
    | succ k1 =>
      have H := HA.out
      clear HA
      simp only [redanref05_Encode.l0] at H
      by_cases c2 : x4_1 < 32
      · rw [if_pos c2] at H
        have c2b0 : decide (x4_1 < 32) = true := decide_eq_true c2
        clear c2
        by_cases c3 : 0 ≤ x4_1
        · rw [if_pos c3] at H
          have c3b0 : decide (0 ≤ x4_1) = true := decide_eq_true c3
          clear c3
          by_cases c4 : x4_1 < (l0.length : Int)
          · rw [if_pos c4] at H
            have c4b0 : decide (x4_1 < (l0.length : Int)) = true := decide_eq_true c4
            clear c4
            by_cases c5 : x3_1.length < 140737488355328
            · rw [if_pos c5] at H
              have LMc5 := Aside0.mk c5
              clear c5
              obtain ⟨y228, hy228⟩ : ∃ y_ : List Int, y_ = (x3_1 ++ [(rd l0 x4_1) % 256]) := ⟨_, rfl⟩
              replace H : (redanref05_Encode.l0 k1 l0 y228 (wrap64 (x4_1 + 1))) = some r := by first | (rw [hy228]; with_reducible exact H) | (have H2_ := (Option.bind_some _ _).symm.trans H; rw [hy228]; with_reducible exact H2_) | (have H2_ := (Option.bind_some _ _).symm.trans H; with_reducible exact H2_) | with_reducible exact H | (rw [hy228]; exact H) | exact H
              have Ny228 := Aside0.mk hy228
              clear hy228
              have H' := Aside0.mk H
              clear H
              have p227 : 0 ≤ (x4_1 : Int) := of_decide_eq_true (by first | (with_reducible assumption) | assumption)
              have q227 : x4_1 < (l0.length : Int) := of_decide_eq_true (by first | (with_reducible assumption) | assumption)
              obtain ⟨ad227, e227, hx227_0⟩ := Kd.at_int HR0.out x4_1 p227 q227
              cases e227
              replace hx227_0 := (HB.out.cell (World.block_lt_of_cell? w _ hx227_0)).trans hx227_0
              replace p227 := eq_true p227
              replace q227 := eq_true q227
              go_wp2_with (first | ((with_reducible refine gate_builtin (b := .append) (xs := #[.tmp 9, .tmp 15]) rfl ?_); at_builtin; refine Kd.R_append (Kd.int .u8) (w0 := w) w.heap.size rfl (.tmp 9) (.tmp 15) 22 5 (.int .u8 0) 1 rfl Try.underlying22 info5 rfl (by decide) (by omega) u3 x3_1 ((rd l0 x4_1) % 256) [.int .u8 ((rd l0 x4_1) % 256)] (fun _ => True) (fun _ => False) rfl rfl ?aP (fun _ hk => hk.elim) ?aF ?aO ?aB ?aS ?aL ?_; (case aP => exact rfl); (case aB => exact (by repeat (first | (with_reducible first | exact HB.out | apply below_alloc | apply pw_below_drewN | apply below_drew1) | exact HB.out))); (case aF => exact (fun _ _ => trivial)); (case aO => exact (by (with_reducible repeat (first | apply Kd.R_alloc | apply Kd.R_drewN | apply Kd.R_drew)); exact HO_3.out)); (case aS => exact (below_size (by repeat (first | (with_reducible first | exact HB.out | apply below_alloc | apply pw_below_drewN | apply below_drew1) | exact HB.out)))); (case aL => have := LMc5.out; omega); intro v229 w6 ho hb hg hat; rw [← Ny228.out] at ho; have n0_ := Aside0.mk (hb); have n1_ := Aside0.mk (ho); clear HB; clear HO_3; have HB := n0_; have HO230 := n1_; clear n0_ n1_; clear ho hb hg hat))
              go_roundg k1
              case measure => have := HK1.out; omega
              case rel => exact ⟨(y228), (wrap64 (x4_1 + 1)), (by first | rfl | (simp; done) | (simp [*]; done)), H', ⟨by have := HK1.out; omega⟩, ⟨by (with_reducible repeat (first | apply Kd.R_alloc | apply Kd.R_drewN | apply Kd.R_drew)); exact HO230.out⟩, ⟨by repeat (first | (with_reducible first | exact HB.out | apply below_alloc | apply pw_below_drewN | apply below_drew1) | exact HB.out)⟩⟩
            · rw [if_neg c5] at H
              exact absurd H (by simp)
          · rw [if_neg c4] at H
            exact absurd H (by simp)
        · rw [if_neg c3] at H
          exact absurd H (by simp)
      · rw [if_neg c2] at H
        have c2b0 : decide (x4_1 < 32) = false := decide_eq_false c2
        clear c2
        obtain rfl := Option.some.inj H
        go_wp2
        go_ret
        exact ⟨_, by first | rfl | (simp [errW_none, errW_some] <;> rfl) | (simp [*, errW_none, errW_some] <;> rfl), by (with_reducible repeat (first | apply Kd.R_alloc | apply Kd.R_drewN | apply Kd.R_drew)); exact HO_3.out, by repeat (first | (with_reducible first | exact HB.out | apply below_alloc | apply pw_below_drewN | apply below_drew1) | exact HB.out)⟩

/-! ### redanref06_Clamp: function 49 -/
def redanref06_Clamp.f (l0 : List Int) : Option (List Int) := if ([] : List Int).length + l0.length < 140737488355328 then ((some (([] : List Int) ++ l0 : List Int)).bind fun y231 => (if 0 < (y231.length : Int) then ((some (y231.set (0 : Int).toNat ((((Int.tdiv (rd y231 0) 8) % 256) * 8) % 256) : List Int)).bind fun y235 => (if 31 < (y231.length : Int) then (some (y235.set (31 : Int).toNat (((Int.tmod (rd y235 31) 64) + 64) % 256))) else (none))) else (none))) else (none)
set_option maxHeartbeats 8000000 in
set_option maxRecDepth 100000 in
theorem redanref06_Clamp.calls (A0 : Option Addr) (c0 : Nat) (l0 : List Int) (r : List Int) (w : World) (hr0 : Kd.C (Kd.int .u8) w A0 l0.length l0) (hc0 : l0.length ≤ c0) (h : redanref06_Clamp.f l0 = some r) :
    Calls Try.prog 49 #[.slice A0 l0.length c0] w fun e w' => ∃ v0_ : Value, e = .returned (v0_) ∧ Kd.R (Kd.int .u8) 5 w' w.heap.size (fun _ => True) v0_ r ∧ Below w.heap.size w w' := by
  have HR0 := Aside0.mk hr0
  have HC0 := Aside0.mk hc0
  clear hr0 hc0
  have HB := Aside0.mk (Below.refl w.heap.size w)
  have H : (if ([] : List Int).length + l0.length < 140737488355328 then ((some (([] : List Int) ++ l0 : List Int)).bind fun y231 => (if 0 < (y231.length : Int) then ((some (y231.set (0 : Int).toNat ((((Int.tdiv (rd y231 0) 8) % 256) * 8) % 256) : List Int)).bind fun y235 => (if 31 < (y231.length : Int) then (some (y235.set (31 : Int).toNat (((Int.tmod (rd y235 31) 64) + 64) % 256))) else (none))) else (none))) else (none)) = some r := h
  clear h
  by_cases c2 : ([] : List Int).length + l0.length < 140737488355328
  · rw [if_pos c2] at H
    have LMc2 := Aside0.mk c2
    clear c2
    obtain ⟨y231, hy231⟩ : ∃ y_ : List Int, y_ = (([] : List Int) ++ l0) := ⟨_, rfl⟩
    replace H : (if 0 < (y231.length : Int) then ((some (y231.set (0 : Int).toNat ((((Int.tdiv (rd y231 0) 8) % 256) * 8) % 256) : List Int)).bind fun y235 => (if 31 < (y231.length : Int) then (some (y235.set (31 : Int).toNat (((Int.tmod (rd y235 31) 64) + 64) % 256))) else (none))) else (none)) = some r := by first | (rw [hy231]; with_reducible exact H) | (have H2_ := (Option.bind_some _ _).symm.trans H; rw [hy231]; with_reducible exact H2_) | (have H2_ := (Option.bind_some _ _).symm.trans H; with_reducible exact H2_) | with_reducible exact H | (rw [hy231]; exact H) | exact H
    have Ny231 := Aside0.mk hy231
    clear hy231
    by_cases c3 : 0 < (y231.length : Int)
    · rw [if_pos c3] at H
      have c3b0 : decide (0 < (y231.length : Int)) = true := decide_eq_true c3
      have c3b1 : decide (0 < y231.length) = true := decide_eq_true (by omega)
      clear c3
      obtain ⟨y235, hy235⟩ : ∃ y_ : List Int, y_ = (y231.set (0 : Int).toNat ((((Int.tdiv (rd y231 0) 8) % 256) * 8) % 256)) := ⟨_, rfl⟩
      replace H : (if 31 < (y231.length : Int) then (some (y235.set (31 : Int).toNat (((Int.tmod (rd y235 31) 64) + 64) % 256))) else (none)) = some r := by first | (rw [hy235]; with_reducible exact H) | (have H2_ := (Option.bind_some _ _).symm.trans H; rw [hy235]; with_reducible exact H2_) | (have H2_ := (Option.bind_some _ _).symm.trans H; with_reducible exact H2_) | with_reducible exact H | (rw [hy235]; exact H) | exact H
      have Ny235 := Aside0.mk hy235
      clear hy235
      by_cases c5 : 31 < (y231.length : Int)
      · rw [if_pos c5] at H
        have c5b0 : decide (31 < (y231.length : Int)) = true := decide_eq_true c5
        have c5b1 : decide (31 < y231.length) = true := decide_eq_true (by omega)
        clear c5
        obtain ⟨y237, hy237⟩ : ∃ y_ : List Int, y_ = (y235.set (31 : Int).toNat (((Int.tmod (rd y235 31) 64) + 64) % 256)) := ⟨_, rfl⟩
        replace H : (some y237) = some r := by first | (rw [hy237]; with_reducible exact H) | (have H2_ := (Option.bind_some _ _).symm.trans H; rw [hy237]; with_reducible exact H2_) | (have H2_ := (Option.bind_some _ _).symm.trans H; with_reducible exact H2_) | with_reducible exact H | (rw [hy237]; exact H) | exact H
        have Ny237 := Aside0.mk hy237
        clear hy237
        obtain rfl := Option.some.inj H
        go_enter Try.func49, Try.ntmps49
        go_wp2_with (first | ((with_reducible refine gate_builtin (b := .append) (xs := #[.tmp 4, .tmp 5]) rfl ?_); at_builtin; refine Kd.R_append_rows (Kd.int .u8) (w0 := w) w.heap.size rfl (.tmp 4) (.tmp 5) 22 5 (.int .u8 0) 1 rfl Try.underlying22 info5 rfl (by decide) (by omega) (.slice none 0 0) ([] : List Int) l0 _ _ _ (fun _ => True) (fun _ => False) rfl rfl ?aO ?aR (fun _ _ h => h) (fun _ h => h.elim) ?aF ?aB ?aS ?aL ?_; (case aR => repeat (first | exact HR0.out | (with_reducible refine Kd.C_alloc ?_ _) | (with_reducible refine Kd.C_drewN ?_ _) | (with_reducible refine Kd.C_drew ?_))); (case aB => exact (by repeat (first | (with_reducible first | exact HB.out | apply below_alloc | apply pw_below_drewN | apply below_drew1) | exact HB.out))); (case aF => exact (fun _ _ => trivial)); (case aO => exact ((Kd.R_nil _ _ _ _ (fun _ => True)))); (case aS => exact (below_size (by repeat (first | (with_reducible first | exact HB.out | apply below_alloc | apply pw_below_drewN | apply below_drew1) | exact HB.out)))); (case aL => have := LMc2.out; omega); intro v232 w7 ho hb hg hat; rw [← Ny231.out] at ho; have n0_ := Aside0.mk (hb); have n1_ := Aside0.mk (ho); clear HB; have HB := n0_; have HO233 := n1_; clear n0_ n1_; clear ho hb hg hat; obtain ⟨Ao8, co8, eo8⟩ := Kd.R_slice HO233.out; subst eo8; have p234 : 0 ≤ (0 : Int) := (by omega); have q234 : 0 < (y231.length : Int) := of_decide_eq_true (by first | (with_reducible assumption) | assumption); obtain ⟨ad234, e234, hx234_0⟩ := Kd.at_int (Kd.R_reads' HO233.out).2.2 0 p234 q234; cases e234; have qi234 : (0 < y231.length) = True := eq_true (by omega); (try rw [show ((0 : Int)).toNat = 0 from rfl] at hx234_0); (try rw [Addr.add_zero'] at hx234_0); replace p234 := eq_true p234; replace q234 := eq_true q234; have p4 : 0 ≤ (0 : Int) := (by omega); have q4 : (0 : Int) < ((y231.length : Int) : Int) := of_decide_eq_true (by first | (with_reducible assumption) | assumption); have qi4 : (0 < y231.length) = True := eq_true (by omega); obtain ⟨go4, co4, eo4, gb4, gl4, cl4, HG4⟩ := Kd.R_form HO233.out (by omega); (first | cases eo4 | (injection eo4 with ea_ en_ ec_; (first | subst ea_ | (injection ea_ with ea_; subst ea_)); subst ec_; clear en_)); have GB4 := Aside0.mk gb4; have GG4 := Aside0.mk HG4; clear gb4 gl4 HG4; (first | simp only [add_plain] at hx234_0 | skip); obtain ⟨hx4_0, hf4_0⟩ := Kd.R_celln 0 HO233.out (0 : Int) p4 q4; (try rw [show ((0 : Int)).toNat = 0 from rfl] at hx4_0); (try simp only [Nat.reduceMul, Nat.zero_mul, Nat.zero_add, Nat.reduceAdd] at hx4_0); (try rw [show ((0 : Int)).toNat = 0 from rfl] at hf4_0); (try simp only [Nat.reduceMul, Nat.zero_mul, Nat.zero_add, Nat.reduceAdd] at hf4_0); replace p4 := eq_true p4; replace q4 := eq_true q4; obtain ⟨hy9_, hz9_⟩ := Kd.R_celln 0 HO233.out (0 : Int) (by omega) (of_decide_eq_true (by first | (with_reducible assumption) | assumption)); (try simp only [Int.reduceToNat, Int.toNat_zero, Int.toNat_ofNat, Nat.reduceMul, Nat.zero_mul, Nat.zero_add] at hy9_ hz9_); (try rw [show ((0 : Int)).toNat = 0 from rfl] at hy9_); (try rw [show ((0 : Int)).toNat = 0 from rfl] at hz9_); have HP9 := Kd.R_putg HO233.out (0 : Int) ((((Int.tdiv (rd y231 0) 8) % 256) * 8) % 256)) | ((with_reducible refine gate_store (t := 5) (p := 13) rfl ?_); refine store_event (t := 5) (p := 13) (v := ?vo_w10) (w1 := (w7.setCell ⟨go4, (0 : Int).toNat, none⟩ (.int .u8 ((((Int.tdiv (rd y231 0) 8) % 256) * 8) % 256)))) ?hg ?ho ?hn ?hr ?_; (case ho => rfl); (case hg => rfl); (case hn => rfl); (case hr => first | (go_simp; done) | (go_simp; rfl)); intro w10 hw; have hg : w7.grownBy w10 (some go4) := (by rw [hw]; exact HP9.2); have hp_ : Kd.R (Kd.int .u8) 5 w10 w.heap.size (fun _ => True) (.slice (some ⟨go4, 0, none⟩) y231.length co8) y235 := (by rw [hw, Ny235.out]; exact HP9.1); clear HP9; have n0_ := Aside0.mk (hp_); have n1_ := Aside0.mk ((by rw [hw]; exact below_set (HB.out) GB4.out : Below w.heap.size w w10)); clear HO233; clear HB; have HO233 := n0_; have HB := n1_; clear n0_ n1_; clear hg hw hp_; have p236 : 0 ≤ (31 : Int) := (by omega); have q236 : 31 < (y235.length : Int) := (by have h_ : (31 : Int) < ((y231.length : Int) : Int) := of_decide_eq_true (by first | (with_reducible assumption) | assumption); first | (have e_ := (Kd.R_reads' HO233.out).1; omega) | simpa only [Ny235.out, List.length_set] using h_); have ql236 : ((31 : Int) < ((y231.length : Int) : Int)) = True := eq_true (of_decide_eq_true (by first | (with_reducible assumption) | assumption)); (try have qn236 : (31 < y231.length) = True := eq_true (by have h_ : (31 : Int) < ((y231.length : Int) : Int) := of_decide_eq_true (by first | (with_reducible assumption) | assumption); omega)); obtain ⟨ad236, e236, hx236_0⟩ := Kd.at_int (Kd.R_reads' HO233.out).2.2 31 p236 q236; obtain rfl : (⟨go4, 0, none⟩ : Addr) = ad236 := (by injection e236); (first | simp only [add_plain] at hx236_0 | simp only [add_at] at hx236_0 | simp only [Addr.add, Nat.zero_add] at hx236_0 | skip); have qi236 : (31 < y235.length) = True := eq_true (by omega); (try rw [show ((31 : Int)).toNat = 31 from rfl] at hx236_0); replace p236 := eq_true p236; replace q236 := eq_true q236; have p6 : 0 ≤ (31 : Int) := (by omega); have q6 : (31 : Int) < ((y231.length : Int) : Int) := of_decide_eq_true (by first | (with_reducible assumption) | assumption); have qi6 : (31 < y231.length) = True := eq_true (by omega); obtain ⟨hx6_0, hf6_0⟩ := Kd.R_celln 0 HO233.out (31 : Int) p6 q6; (try rw [show ((31 : Int)).toNat = 31 from rfl] at hx6_0); (try simp only [Nat.reduceMul, Nat.zero_mul, Nat.zero_add, Nat.reduceAdd] at hx6_0); (try rw [show ((31 : Int)).toNat = 31 from rfl] at hf6_0); (try simp only [Nat.reduceMul, Nat.zero_mul, Nat.zero_add, Nat.reduceAdd] at hf6_0); replace p6 := eq_true p6; replace q6 := eq_true q6; obtain ⟨hy11_, hz11_⟩ := Kd.R_celln 0 HO233.out (31 : Int) (by omega) (of_decide_eq_true (by first | (with_reducible assumption) | assumption)); (try simp only [Int.reduceToNat, Int.toNat_zero, Int.toNat_ofNat, Nat.reduceMul, Nat.zero_mul, Nat.zero_add] at hy11_ hz11_); (try rw [show ((31 : Int)).toNat = 31 from rfl] at hy11_); (try rw [show ((31 : Int)).toNat = 31 from rfl] at hz11_); have HP11 := Kd.R_putg HO233.out (31 : Int) (((Int.tmod (rd y235 31) 64) + 64) % 256)) | ((with_reducible refine gate_store (t := 5) (p := 20) rfl ?_); refine store_event (t := 5) (p := 20) (v := ?vo_w12) (w1 := (w10.setCell ⟨go4, (31 : Int).toNat, none⟩ (.int .u8 (((Int.tmod (rd y235 31) 64) + 64) % 256)))) ?hg ?ho ?hn ?hr ?_; (case ho => rfl); (case hg => rfl); (case hn => rfl); (case hr => first | (go_simp; done) | (go_simp; rfl)); intro w12 hw; have hg : w10.grownBy w12 (some go4) := (by rw [hw]; exact HP11.2); have hp_ : Kd.R (Kd.int .u8) 5 w12 w.heap.size (fun _ => True) (.slice (some ⟨go4, 0, none⟩) y231.length co8) y237 := (by rw [hw, Ny237.out]; exact HP11.1); clear HP11; have n0_ := Aside0.mk (hp_); have n1_ := Aside0.mk ((by rw [hw]; exact below_set (HB.out) GB4.out : Below w.heap.size w w12)); clear HO233; clear HB; have HO233 := n0_; have HB := n1_; clear n0_ n1_; clear hg hw hp_))
        go_ret
        exact ⟨_, by first | rfl | (simp [errW_none, errW_some] <;> rfl) | (simp [*, errW_none, errW_some] <;> rfl), by (with_reducible repeat (first | apply Kd.R_alloc | apply Kd.R_drewN | apply Kd.R_drew)); exact HO233.out, by repeat (first | (with_reducible first | exact HB.out | apply below_alloc | apply pw_below_drewN | apply below_drew1) | exact HB.out)⟩
      · rw [if_neg c5] at H
        exact absurd H (by simp)
    · rw [if_neg c3] at H
      exact absurd H (by simp)
  · rw [if_neg c2] at H
    exact absurd H (by simp)

end Go.Proofs.Ytfklojheogidpaa.Ref
