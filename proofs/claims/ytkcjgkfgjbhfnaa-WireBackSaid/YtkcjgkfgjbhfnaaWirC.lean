import Derived.Test.YtkcjgkfgjbhfnaaWirQ
import Derived.Test.YtkcjgkfgjbhfnaaWir
import Derived.Laws.BytesArg
set_option linter.unusedVariables false
set_option linter.unusedSimpArgs false
namespace Go.Proofs.Ytkcjgkfgjbhfnaa
open Go.RowKit Go.Proofs.YtkcjgkfgjbhfnaaW.PrintWords Go.Proofs.YtkcjgkfgjbhfnaaW.PrintLast Go.Proofs.YtkcjgkfgjbhfnaaW.PrintMore

/-! ### The contracts, of a packet -/
/-- A row of bytes that is read. -/
structure Rd (w : World) (A : Option Addr) (c : Nat) (l : List Int) : Prop where
  r : Kd.C (Kd.int .u8) w A l.length l
  c : l.length ≤ c
  b : Bytes l
theorem Rd.below {w w' : World} {A : Option Addr} {c : Nat} {l : List Int} (h : Rd w A c l) (hb : Below w.heap.size w w') : Rd w' A c l := ⟨Kd.C_below h.r hb, h.c, h.b⟩
theorem Rd.drew {w : World} {A : Option Addr} {c : Nat} {l : List Int} (h : Rd w A c l) : Rd w.drew A c l := h.below (Below.refl _ _).drew
theorem heap_u8 : Kd.Heap (Kd.int .u8) := by
  first | exact Kd.heap_int _ | exact Kd.Heap.int _ | exact Kd.heap_scalar _ _
theorem Rd.v {w : World} {A : Option Addr} {c : Nat} {l : List Int} (h : Rd w A c l) : Kd.V (Kd.int .u8) 5 w w.heap.size (fun k_ => k_ < w.heap.size) (.slice A l.length c) l := Kd.V_mk h.c (Kd.C_F heap_u8 h.r)
/-- A row of bytes of one's own. -/
def Own (w : World) (base : Nat) (v : Value) (l : List Int) : Prop := Kd.R (Kd.int .u8) 5 w base (fun _ => True) v l
theorem Own.rd {w : World} {base : Nat} {v : Value} {l : List Int} (h : Own w base v l) (hb : Bytes l) : ∃ A c, v = .slice A l.length c ∧ Rd w A c l := by
  obtain ⟨A, c, e, h1, h2⟩ := Kd.R_reads h
  exact ⟨A, c, e, h2, h1, hb⟩

theorem putL_bytes (P : Pk) (h : P.ok) (hm : Bytes P.mac) (hb : Bytes P.body) : Bytes (putL P) := by
  have hmod : ∀ x : Int, Byte (x % 256) := fun x => by unfold Byte; omega
  have h1 : Byte 1 := ⟨by omega, by omega⟩
  have h2 : Byte 2 := ⟨by omega, by omega⟩
  intro x hx
  unfold putL at hx
  split at hx
  · simp only [List.mem_append, List.mem_cons, List.not_mem_nil, or_false] at hx
    rcases hx with ((((rfl | hx) | hx) | (rfl | rfl | rfl)) | hx) | hx
    · exact h1
    · exact st_bytes _ _ x hx
    · exact st_bytes _ _ x hx
    · exact hmod _
    · exact hmod _
    · exact hmod _
    · exact hm x hx
    · exact hb x hx
  · split at hx
    · simp only [List.mem_append, List.mem_cons, List.not_mem_nil, or_false] at hx
      rcases hx with (rfl | hx) | hx
      · exact h2
      · exact st_bytes _ _ x hx
      · exact hm x hx
    · simp only [List.mem_append, List.mem_cons, List.not_mem_nil, or_false] at hx
      rcases hx with ((rfl | hx) | hx) | hx
      · exact hmod _
      · exact st_bytes _ _ x hx
      · exact st_bytes _ _ x hx
      · exact hb x hx
theorem signL_bytes (P : Pk) (h : P.ok) (hb : Bytes P.body) : Bytes (signL P) := by
  have hmod : ∀ x : Int, Byte (x % 256) := fun x => by unfold Byte; omega
  have h1 : Byte 1 := ⟨by omega, by omega⟩
  intro x hx
  unfold signL at hx
  split at hx
  · simp only [List.mem_append, List.mem_cons, List.not_mem_nil, or_false] at hx
    rcases hx with (((rfl | hx) | hx) | (rfl | rfl | rfl)) | hx
    · exact h1
    · exact st_bytes _ _ x hx
    · exact st_bytes _ _ x hx
    · exact hmod _
    · exact hmod _
    · exact hmod _
    · exact hb x hx
  · cases hx
section
variable (P : Pk) (h : P.ok) {A B : Option Addr} {c d : Nat} (hm : P.mac.length ≤ 5000) (hb : P.body.length ≤ 5000) (w : World) (hA : Rd w A c P.mac) (hB : Rd w B d P.body)
include h hm hb hA hB
theorem put_any : Calls Try.prog 20 #[.agg #[.int .i64 P.k, .int .u32 P.f, .int .u32 P.t, .int .i64 P.m, .int .i64 P.p, .int .i64 P.n, .slice A P.mac.length c, .int .u64 P.c, .slice B P.body.length d]] w
    fun e w' => ∃ v, e = .returned (.tuple #[v, .int .i64 (if mayB P = true then 0 else 1)]) ∧ Own w' w.heap.size v (if mayB P = true then putL P else []) ∧ Below w.heap.size w w' :=
  (Wr.wire_Put.calls 30 P.k P.f P.t P.m P.p P.n _ A c P.mac P.c _ B d P.body _ _ w hA.v hB.v (put_ok P h hm hb)).mono (fun e w' ⟨v, h1, h2, h3⟩ => ⟨v, h1, Kd.R_mono h2 (fun _ _ => trivial), h3⟩)
theorem sign_any : Calls Try.prog 22 #[.agg #[.int .i64 P.k, .int .u32 P.f, .int .u32 P.t, .int .i64 P.m, .int .i64 P.p, .int .i64 P.n, .slice A P.mac.length c, .int .u64 P.c, .slice B P.body.length d]] w
    fun e w' => ∃ v, e = .returned v ∧ Own w' w.heap.size v (signL P) ∧ Below w.heap.size w w' :=
  (Wr.wire_Signed.calls 31 P.k P.f P.t P.m P.p P.n A c P.mac P.c _ B d P.body _ w hA.r hA.c hB.v (sign_ok P h hm hb)).mono (fun e w' ⟨v, h1, h2, h3⟩ => ⟨v, h1, Kd.R_mono h2 (fun _ _ => trivial), h3⟩)
omit hm hb in
theorem may_any : Calls Try.prog 30 #[.agg #[.int .i64 P.k, .int .u32 P.f, .int .u32 P.t, .int .i64 P.m, .int .i64 P.p, .int .i64 P.n, .slice A P.mac.length c, .int .u64 P.c, .slice B P.body.length d]] w
    fun e w' => e = .returned (.bool (mayB P)) ∧ Below w.heap.size w w' :=
  Wr.wire_may.calls P.k P.f P.t P.m P.p P.n A c P.mac P.c B d P.body _ w hA.r hA.c hB.r hB.c (wire_may_ok P h)
omit hm hb in
theorem rmay_any : Calls Try.prog 21 #[.agg #[.int .i64 P.k, .int .u32 P.f, .int .u32 P.t, .int .i64 P.m, .int .i64 P.p, .int .i64 P.n, .slice A P.mac.length c, .int .u64 P.c, .slice B P.body.length d]] w
    fun e w' => e = .returned (.bool (mayB P)) ∧ Below w.heap.size w w' :=
  Wr.redanref18_May.calls 1 P.k P.f P.t P.m P.p P.n A c P.mac P.c B d P.body _ w hA.r hA.c hB.r hB.c (ref_may_ok P h 0)
end
theorem strOfNums_inj {l m : List Int} (hl : Bytes l) (hm : Bytes m) (h : strOfNums l = strOfNums m) : l = m := by
  have h1 : l.map (fun n => UInt8.ofNat n.toNat) = m.map (fun n => UInt8.ofNat n.toNat) := by
    have := congrArg (fun b : ByteArray => b.data.toList) h
    simpa [strOfNums_data] using this
  have hid : ∀ l : List Int, Bytes l → (l.map (fun n => UInt8.ofNat n.toNat)).map (fun b => (b.toNat : Int)) = l := by
    intro l hl
    rw [List.map_map]
    refine (List.map_congr_left (fun x hx => ?_)).trans (List.map_id l)
    have := hl x hx
    unfold Byte at this
    simp
    omega
  rw [← hid l hl, ← hid m hm, h1]
theorem str_eq {l m : List Int} (hl : Bytes l) (hm : Bytes m) : (strOfNums l).toList = (strOfNums m).toList ↔ l = m := by
  rw [ByteArray.toList_eq, ByteArray.toList_eq]
  exact ⟨fun h => strOfNums_inj hl hm (ByteArray.ext (Array.toList_inj.1 h)), fun h => by rw [h]⟩
theorem conv_C {w : World} {A : Option Addr} {n c : Nat} {l : List Int} (h : Kd.C (Kd.int .u8) w A n l) : (convert 37 9 (.slice A n c)).run Try.prog w = .ok (.string (strOfNums l)) w := by
  have hr := Kd.reads_of_C (d := (0 : Int)) h
  rw [run_convert_bytes_string w 37 9 5 A n c Try.underlying37 Try.underlying5 Try.underlying9]
  have hlen := hr.1
  rcases Nat.eq_zero_or_pos n with h0 | hp
  · have hl0 : l = [] := List.eq_nil_of_length_eq_zero (by omega)
    subst hl0 h0
    cases A with
    | none => simp [Conv.bytesToString, strOfNums]; rfl
    | some ad => exact run_bytesToString w ad 0 c [] (by rfl)
  · obtain ⟨ad, rfl, hc⟩ := hr.2.2 hp
    have hl : (loadCells ad n).run Try.prog w = .ok (l.map (Value.int .u8)).toArray w := by
      have := run_loadCells_list (P := Try.prog) w ad (l.map (Value.int .u8)) (fun j v hj => by
        have hjl : j < l.length := by
          rcases Nat.lt_or_ge j l.length with h | h
          · exact h
          · simp [List.getElem?_eq_none (show (l.map (Value.int .u8)).length ≤ j by simpa using h)] at hj
        rw [hc j (by omega)]
        simp [List.getElem?_eq_getElem hjl] at hj
        subst hj
        simp [List.getD, List.getElem?_eq_getElem hjl])
      simpa [hlen] using this
    rw [run_bytesToString w _ n c l hl, foldl_push_bytes]
    simp [strOfNums, ByteArray.empty, ByteArray.emptyWithCapacity]
    rfl
set_option maxHeartbeats 1000000 in
theorem model_any (P : Pk) (a b : Value) (w : World) (ha : ∃ A n c, a = .slice A n c) (hb : ∃ A n c, b = .slice A n c) :
    Calls Try.prog 19 #[.agg #[.int .i64 P.k, .int .u32 P.f, .int .u32 P.t, .int .i64 P.m, .int .i64 P.p, .int .i64 P.n, a, .int .u64 P.c, b]] w
    fun e w' => e = .returned (.agg #[.int .i64 P.k, .int .u32 P.f, .int .u32 P.t, .int .i64 P.m, .int .i64 P.p, .int .i64 P.n, a, .int .u64 P.c, b]) ∧ Below w.heap.size w w' := by
  obtain ⟨A, n, c, rfl⟩ := ha
  obtain ⟨B, n', d, rfl⟩ := hb
  obtain ⟨k, f, t, m, p, nn, mac, cc, body⟩ := P
  dsimp only
  go_enter Try.func19, Try.ntmps19
  go_wp2
  exact bodyPost_ret (v := .agg #[.int .i64 k, .int .u32 f, .int .u32 t, .int .i64 m, .int .i64 p, .int .i64 nn, .slice A n c, .int .u64 cc, .slice B n' d]) (by simp [results, Try.results19, go_sem]) rfl ⟨rfl, by repeat (first | exact Below.refl _ _ | refine Below.setCell ?_ (by simp) _ | refine Below.alloc ?_ (by simp) _)⟩
end Go.Proofs.Ytkcjgkfgjbhfnaa
