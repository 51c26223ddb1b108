/- utf.put: a scalar's bytes behind a row of bytes. -/
import Derived.Test.YtijikaihmaganaaP2
import Derived.Shelf.Abstract
import Derived.LoopN
import Derived.Laws.Shifts
import Derived.Laws.BitsLemmas
namespace Go.Proofs.Ytijikaihmaganaa.P
open Go.RowKit Go.Shelf Go.Proofs.YtijikaihmaganaaW.PrintWords Go.Proofs.YtijikaihmaganaaW.PrintLast Go.Proofs.YtijikaihmaganaaW.PrintMore
set_option linter.unusedVariables false
set_option linter.unusedSimpArgs false

/-- A scalar's bytes. -/
def bytesF (c : Int) : List Int :=
  if c < 128 then [c] else if c < 2048 then [192 + c / 64, 128 + c % 64] else if c < 65536 then [224 + c / 4096, 128 + c / 64 % 64, 128 + c % 64] else [240 + c / 262144, 128 + c / 4096 % 64, 128 + c / 64 % 64, 128 + c % 64]
abbrev Row (w : World) (n0 : Nat) (u : Value) (l : List Int) : Prop := Kd.R (Kd.int .u8) 5 w n0 (fun _ => True) u l
theorem sh_of (c : Int) (n m : Nat) (hn : m ≤ 60) (hm : wrap64 (n : Int) = (m : Int)) : ∀ w', (Op.shift BinOp.shr .i64 c .i64 (wrap64 (n : Int))).run Try.prog w' = .ok (.int .i64 (c / 2 ^ m)) w' := fun w' => by
  rw [hm, shift_shr_any _ _ _ _ (by omega)]
  simp only [Int.toNat_natCast, Sem.run_pure]
  congr 3
  rw [show min m IntKind.i64.bits = m by simp only [IntKind.bits]; omega]
theorem wraps_i64 (n : Int) (h0 : 0 ≤ n) (h1 : n < 2 ^ 62) : IntKind.i64.wrap n = n := by rw [IntKind.wrap_i64]; omega
theorem tail_eq (q : Int) (h0 : 0 ≤ q) (h1 : q < 1099511627776) : bits .or .i64 128 (bits .and .i64 q 63) % 256 = 128 + q % 64 := by
  have e1 := bits_mask .i64 62 (by decide) wraps_i64 6 (by decide) q h0 (by omega)
  rw [show ((2 : Int) ^ 6 - 1) = 63 by decide, show ((2 : Int) ^ 6) = 64 by decide] at e1
  have e2 := bits_join .i64 62 (by decide) wraps_i64 6 128 (q % 64) (by decide) (by decide) (by decide) (by omega) (by omega) (by omega)
  rw [e1, e2]
  omega
theorem head_eq (H q : Int) (i : Nat) (hH : H % 2 ^ i = 0) (hH0 : 0 ≤ H) (hH1 : H < 256) (h0 : 0 ≤ q) (h1 : q < 2 ^ i) (h2 : H + q < 256) : IntKind.u8.wrap (bits .or .i64 H q) = H + q := by
  have e2 := bits_join .i64 62 (by decide) wraps_i64 i H q hH0 hH (by omega) h0 h1 (by omega)
  rw [e2, IntKind.wrap_u8]
  omega
set_option maxHeartbeats 8000000 in
set_option maxRecDepth 100000 in
theorem put1 (w0 W : World) (o : List Int) (v : Value) (c : Int) (hrow : Row W w0.heap.size v o) (hB : Below w0.heap.size w0 W) (h0 : 0 ≤ c) (h1 : c < 128) (hl : o.length + 4 ≤ 140737488355328) :
    Calls Try.prog 29 #[v, .int .i64 c] W fun e W' => ∃ v', e = .returned v' ∧ Row W' w0.heap.size v' (o ++ bytesF c) ∧ Below w0.heap.size w0 W' := by
  have HO := Aside0.mk hrow
  have HL := Aside0.mk hl
  have HB0 := Aside0.mk hB
  have hu59 := Try.underlying59
  have hu60 := Try.underlying60
  have i0 : ∀ w, (Instr.index 60 (.agg #[.int .i64 0, .int .i64 128, .int .i64 192, .int .i64 2048, .int .i64 224, .int .i64 65536, .int .i64 240, .int .i64 1114112]) (.int .i64 0)).run Try.prog w = .ok (.agg #[.int .i64 0, .int .i64 128]) w := fun _ => by kernel_rfl
  have i1 : ∀ w, (Instr.index 60 (.agg #[.int .i64 0, .int .i64 128, .int .i64 192, .int .i64 2048, .int .i64 224, .int .i64 65536, .int .i64 240, .int .i64 1114112]) (.int .i64 1)).run Try.prog w = .ok (.agg #[.int .i64 192, .int .i64 2048]) w := fun _ => by kernel_rfl
  have i2 : ∀ w, (Instr.index 60 (.agg #[.int .i64 0, .int .i64 128, .int .i64 192, .int .i64 2048, .int .i64 224, .int .i64 65536, .int .i64 240, .int .i64 1114112]) (.int .i64 2)).run Try.prog w = .ok (.agg #[.int .i64 224, .int .i64 65536]) w := fun _ => by kernel_rfl
  have i3 : ∀ w, (Instr.index 60 (.agg #[.int .i64 0, .int .i64 128, .int .i64 192, .int .i64 2048, .int .i64 224, .int .i64 65536, .int .i64 240, .int .i64 1114112]) (.int .i64 3)).run Try.prog w = .ok (.agg #[.int .i64 240, .int .i64 1114112]) w := fun _ => by kernel_rfl
  have c0 : decide (128 ≤ c) = false := decide_eq_false (by omega)
  have c1 : decide (2048 ≤ c) = false := decide_eq_false (by omega)
  have c2 : decide (65536 ≤ c) = false := decide_eq_false (by omega)
  have c3 : decide (1114112 ≤ c) = false := decide_eq_false (by omega)
  have sh0 : ∀ w', (Op.shift BinOp.shr .i64 c .i64 (wrap64 0)).run Try.prog w' = .ok (.int .i64 (c / 2 ^ 0)) w' := sh_of c 0 0 (by omega) (by unfold wrap64; omega)
  clear hrow hB hl
  go_enter Try.func29, Try.ntmps29
  go_wp2_with (go_at_call 32; refine (utf_forms.calls _ _ _ _ _ _ _ _ _ rfl).mono ?_; rintro e w1 ⟨rfl, hb1⟩)
  have n0_ := Aside0.mk (HB0.out.trans (hb1.mono HB0.out.size))
  have n1_ := Aside0.mk (Kd.R_below HO.out hb1)
  clear HO HB0 hb1
  have HB := n0_
  have HO := n1_
  clear n0_ n1_
  refine wp_loop_rounds 5 ?_
  rw [rounds_succ]
  go_wp2
  have hS : (((w1.alloc (.cells #[.int .i64 0, .int .i64 128] 59))).drew).cell? ⟨w1.heap.size, 0, none⟩ = some (.int .i64 0) := by
    have hb := blk_drew (blk_new w1 (.cells #[.int .i64 0, .int .i64 128] 59))
    try simp only [World.size_alloc] at hb
    exact cI hb 0 rfl
  have n0_ : Aside0 (Below w0.heap.size w0 ((w1.alloc (.cells #[.int .i64 0, .int .i64 128] 59))).drew) := ⟨below_drew1 (by repeat (first | (with_reducible first | exact HB.out | apply below_alloc | apply pw_below_drewN | apply below_drew1) | exact HB.out))⟩
  have n1_ : Aside0 (Row ((w1.alloc (.cells #[.int .i64 0, .int .i64 128] 59))).drew w0.heap.size v o) := ⟨Kd.R_drew (by (with_reducible repeat (first | apply Kd.R_alloc | apply Kd.R_drewN | apply Kd.R_drew)); exact HO.out)⟩
  clear HO HB
  have HB := n0_
  have HO := n1_
  clear n0_ n1_
  refine start_ (n := 12) (S := fun w' => w'.cell? ⟨w1.heap.size, 0, none⟩ = some (.int .i64 0)) (ds := [9, 10]) #[false, false, false, false, false, false, false, false, false, false, false, false] (by kernel_rfl) rfl rfl hS (fun hHeld => ?_)
  generalize ((w1.alloc (.cells #[.int .i64 0, .int .i64 128] 59))).drew = w10 at HO HB hS hHeld ⊢
  refine pure_ (i := 0) (N := some 17) (v := ?_) (a' := ?_) #[true, false, false, false, false, false, false, false, false, false, false, false] rfl rfl (by kernel_rfl) (fun _ _ _ h => h) (Or.inl ⟨by rfl, ?_⟩) ?_ ?_
  rotate_left
  · intro w'
    go_simp
    with_reducible rfl
  rotate_left
  · simp only [Act.put, List.setIfInBounds_toArray, List.set_cons_zero, List.set_cons_succ, i64_w, i32_w]
    rfl
  refine pure_ (i := 1) (N := some 18) (v := ?_) (a' := ?_) #[true, true, false, false, false, false, false, false, false, false, false, false] rfl rfl (by kernel_rfl) (fun _ _ _ h => h) (Or.inl ⟨by rfl, ?_⟩) ?_ ?_
  rotate_left
  · intro w'
    go_simp
    with_reducible rfl
  rotate_left
  · simp only [Act.put, List.setIfInBounds_toArray, List.set_cons_zero, List.set_cons_succ, i64_w, i32_w]
    rfl
  refine pure_ (i := 3) (N := some 20) (v := ?_) (a' := ?_) #[true, true, false, true, false, false, false, false, false, false, false, false] rfl rfl (by kernel_rfl) (fun _ _ _ h => h) (Or.inl ⟨by rfl, ?_⟩) ?_ ?_
  rotate_left
  · intro w'
    go_simp
    with_reducible rfl
  rotate_left
  · simp only [Act.put, List.setIfInBounds_toArray, List.set_cons_zero, List.set_cons_succ, i64_w, i32_w]
    rfl
  refine pure_ (i := 4) (N := some 21) (v := ?_) (a' := ?_) #[true, true, false, true, true, false, false, false, false, false, false, false] rfl rfl (by kernel_rfl) (fun _ _ _ h => h) (Or.inl ⟨by rfl, ?_⟩) ?_ ?_
  rotate_left
  · intro w'
    go_simp
    with_reducible rfl
  rotate_left
  · simp only [Act.put, List.setIfInBounds_toArray, List.set_cons_zero, List.set_cons_succ, i64_w, i32_w]
    rfl
  refine pure_ (i := 5) (N := some 22) (v := ?_) (a' := ?_) #[true, true, false, true, true, true, false, false, false, false, false, false] rfl rfl (by kernel_rfl) (fun _ _ _ h => h) (Or.inl ⟨by rfl, ?_⟩) ?_ ?_
  rotate_left
  · intro w'
    go_simp
    with_reducible rfl
  rotate_left
  · simp only [Act.put, List.setIfInBounds_toArray, List.set_cons_zero, List.set_cons_succ, i64_w, i32_w]
    rfl
  refine take_ (i := 2) (N := some 19) (v := ?_) (a' := ?_) #[true, true, true, true, true, true, false, false, false, false, false, false] rfl rfl (by kernel_rfl) (fun _ _ _ h => h) (Or.inl ⟨by rfl, ?_⟩) hHeld ?_ ?_
  rotate_left
  · rintro w' s0
    go_simp
    with_reducible rfl
  rotate_left
  · simp only [Act.put, List.setIfInBounds_toArray, List.set_cons_zero, List.set_cons_succ, i64_w, i32_w]
    rfl
  refine pure_ (i := 6) (N := some 23) (v := ?_) (a' := ?_) #[true, true, true, true, true, true, true, false, false, false, false, false] rfl rfl (by kernel_rfl) (fun _ _ _ h => h) (Or.inl ⟨by rfl, ?_⟩) ?_ ?_
  rotate_left
  · intro w'
    go_simp
    with_reducible rfl
  rotate_left
  · simp only [Act.put, List.setIfInBounds_toArray, List.set_cons_zero, List.set_cons_succ, i64_w, i32_w]
    rfl
  refine pure_ (i := 7) (N := some 24) (v := ?_) (a' := ?_) #[true, true, true, true, true, true, true, true, false, false, false, false] rfl rfl (by kernel_rfl) (fun _ _ _ h => h) (Or.inl ⟨by rfl, ?_⟩) ?_ ?_
  rotate_left
  · intro w'
    go_simp
    with_reducible rfl
  rotate_left
  · simp only [Act.put, List.setIfInBounds_toArray, List.set_cons_zero, List.set_cons_succ, i64_w, i32_w]
    rfl
  refine pure_ (i := 8) (N := some 25) (v := ?_) (a' := ?_) #[true, true, true, true, true, true, true, true, true, false, false, false] rfl rfl (by kernel_rfl) (fun _ _ _ h => h) (Or.inl ⟨by rfl, ?_⟩) ?_ ?_
  rotate_left
  · intro w'
    go_simp
    with_reducible rfl
  rotate_left
  · simp only [Act.put, List.setIfInBounds_toArray, List.set_cons_zero, List.set_cons_succ, i64_w, i32_w]
    rfl
  refine last_ (i := 9) (N := some 26) #[true, true, true, true, true, true, true, true, true, true, false, false] rfl rfl (by kernel_rfl) (by decide) (fun K hK => ?_)
  refine value_ (w1 := ?_) (v := ?_) (by rfl) rfl ?_ ?_
  rotate_left 2
  · go_simp
    constructor
    · rfl
    · rfl
  refine hK.out _ _ ?_
  clear hK K
  simp only [Act.put, List.setIfInBounds_toArray, List.set_cons_zero, List.set_cons_succ]
  refine last_ (i := 10) (N := some 27) #[true, true, true, true, true, true, true, true, true, true, true, false] rfl rfl (by kernel_rfl) (by decide) (fun K hK => ?_)
  refine Kd.R_append_step (Kd.int .u8) (w0 := w0) w0.heap.size (by rfl) (.tmp 17) (.tmp 26) 24 5 (.int .u8 0) 1 rfl Try.underlying24 info5 rfl (by decide) (by omega) _ _ _ _ (fun _ => True) (fun _ => False) rfl rfl rfl (fun _ hk => hk.elim) (fun _ _ => trivial) (by (with_reducible repeat (first | apply Kd.R_alloc | apply Kd.R_drewN | apply Kd.R_drew)); exact HO.out) (by repeat (first | (with_reducible first | exact HB.out | apply below_alloc | apply pw_below_drewN | apply below_drew1) | exact HB.out)) (below_size (by repeat (first | (with_reducible first | exact HB.out | apply below_alloc | apply pw_below_drewN | apply below_drew1) | exact HB.out))) (by have := HL.out; (try simp only [List.length_append, List.length_cons, List.length_nil]); omega) ?_
  intro v3 w7 ho hb hg hat
  obtain ⟨A3, c3, e3⟩ := Kd.R_slice ho
  subst e3
  simp only [List.length_append, List.length_cons, List.length_nil, Nat.zero_add] at ho
  have HB7 := Aside0.mk hb
  have HO7 := Aside0.mk ho
  clear ho hb hg hat HO HB
  have HB := HB7
  have HO := HO7
  clear HB7 HO7
  refine hK.out _ _ ?_
  clear hK K
  simp only [Act.put, List.getElem_toArray, List.getElem_cons_succ, List.getElem_cons_zero, List.setIfInBounds_toArray, List.set_cons_zero, List.set_cons_succ]
  refine pure_ (i := 11) (N := some 0) (v := ?_) (a' := ?_) #[true, true, true, true, true, true, true, true, true, true, true, true] rfl rfl (by kernel_rfl) (fun _ _ _ h => h) (Or.inl ⟨by rfl, ?_⟩) ?_ ?_
  rotate_left
  · intro w'
    go_simp
    with_reducible rfl
  rotate_left
  · simp only [Act.put, List.setIfInBounds_toArray, List.set_cons_zero, List.set_cons_succ, i64_w, i32_w]
    rfl
  refine done_ (by kernel_rfl) ?_
  go_wp2
  refine wp_loop_rounds 1 ?_
  rw [rounds_succ]
  go_wp2_with ((with_reducible refine gate_builtin (b := .append) (xs := #[.tmp 34, .tmp 42]) rfl ?_); at_builtin; refine Kd.R_append (Kd.int .u8) (w0 := w0) w0.heap.size rfl (.tmp 34) (.tmp 42) 24 5 (.int .u8 0) 1 rfl Try.underlying24 info5 rfl (by decide) (by omega) _ _ _ _ (fun _ => True) (fun _ => False) rfl rfl rfl (fun _ hk => hk.elim) (fun _ _ => trivial) (by (with_reducible repeat (first | apply Kd.R_alloc | apply Kd.R_drewN | apply Kd.R_drew)); exact HO.out) (by repeat (first | (with_reducible first | exact HB.out | apply below_alloc | apply pw_below_drewN | apply below_drew1) | exact HB.out)) (below_size (by repeat (first | (with_reducible first | exact HB.out | apply below_alloc | apply pw_below_drewN | apply below_drew1) | exact HB.out))) (by have := HL.out; (try simp only [List.length_append, List.length_cons, List.length_nil]); omega) ?_; intro v3 w7 ho hb hg hat; obtain ⟨A3, c3, e3⟩ := Kd.R_slice ho; subst e3; simp only [List.length_append, List.length_cons, List.length_nil, Nat.zero_add] at ho; have HB7 := Aside0.mk hb; have HO7 := Aside0.mk ho; clear ho hb hg hat HO HB; have HB := HB7; have HO := HO7; clear HB7 HO7)
  go_ret
  have h := HO.out
  have b := HB.out
  rw [head_eq 0 (c) 7 (by decide) (by decide) (by decide) (by omega) (by omega) (by omega)] at h
  have e : bytesF c = [0 + c] := by
    unfold bytesF
    rw [if_pos h1]
    simp
  rw [e]
  refine ⟨_, rfl, ?_, b⟩
  simpa using h
set_option maxHeartbeats 8000000 in
set_option maxRecDepth 100000 in
theorem put2 (w0 W : World) (o : List Int) (v : Value) (c : Int) (hrow : Row W w0.heap.size v o) (hB : Below w0.heap.size w0 W) (h0 : 128 ≤ c) (h1 : c < 2048) (hl : o.length + 4 ≤ 140737488355328) :
    Calls Try.prog 29 #[v, .int .i64 c] W fun e W' => ∃ v', e = .returned v' ∧ Row W' w0.heap.size v' (o ++ bytesF c) ∧ Below w0.heap.size w0 W' := by
  have HO := Aside0.mk hrow
  have HL := Aside0.mk hl
  have HB0 := Aside0.mk hB
  have hu59 := Try.underlying59
  have hu60 := Try.underlying60
  have i0 : ∀ w, (Instr.index 60 (.agg #[.int .i64 0, .int .i64 128, .int .i64 192, .int .i64 2048, .int .i64 224, .int .i64 65536, .int .i64 240, .int .i64 1114112]) (.int .i64 0)).run Try.prog w = .ok (.agg #[.int .i64 0, .int .i64 128]) w := fun _ => by kernel_rfl
  have i1 : ∀ w, (Instr.index 60 (.agg #[.int .i64 0, .int .i64 128, .int .i64 192, .int .i64 2048, .int .i64 224, .int .i64 65536, .int .i64 240, .int .i64 1114112]) (.int .i64 1)).run Try.prog w = .ok (.agg #[.int .i64 192, .int .i64 2048]) w := fun _ => by kernel_rfl
  have i2 : ∀ w, (Instr.index 60 (.agg #[.int .i64 0, .int .i64 128, .int .i64 192, .int .i64 2048, .int .i64 224, .int .i64 65536, .int .i64 240, .int .i64 1114112]) (.int .i64 2)).run Try.prog w = .ok (.agg #[.int .i64 224, .int .i64 65536]) w := fun _ => by kernel_rfl
  have i3 : ∀ w, (Instr.index 60 (.agg #[.int .i64 0, .int .i64 128, .int .i64 192, .int .i64 2048, .int .i64 224, .int .i64 65536, .int .i64 240, .int .i64 1114112]) (.int .i64 3)).run Try.prog w = .ok (.agg #[.int .i64 240, .int .i64 1114112]) w := fun _ => by kernel_rfl
  have c0 : decide (128 ≤ c) = true := decide_eq_true (by omega)
  have c1 : decide (2048 ≤ c) = false := decide_eq_false (by omega)
  have c2 : decide (65536 ≤ c) = false := decide_eq_false (by omega)
  have c3 : decide (1114112 ≤ c) = false := decide_eq_false (by omega)
  have sh0 : ∀ w', (Op.shift BinOp.shr .i64 c .i64 (wrap64 0)).run Try.prog w' = .ok (.int .i64 (c / 2 ^ 0)) w' := sh_of c 0 0 (by omega) (by unfold wrap64; omega)
  have sh1 : ∀ w', (Op.shift BinOp.shr .i64 c .i64 (wrap64 6)).run Try.prog w' = .ok (.int .i64 (c / 2 ^ 6)) w' := sh_of c 6 6 (by omega) (by unfold wrap64; omega)
  clear hrow hB hl
  go_enter Try.func29, Try.ntmps29
  go_wp2_with (go_at_call 32; refine (utf_forms.calls _ _ _ _ _ _ _ _ _ rfl).mono ?_; rintro e w1 ⟨rfl, hb1⟩)
  have n0_ := Aside0.mk (HB0.out.trans (hb1.mono HB0.out.size))
  have n1_ := Aside0.mk (Kd.R_below HO.out hb1)
  clear HO HB0 hb1
  have HB := n0_
  have HO := n1_
  clear n0_ n1_
  refine wp_loop_rounds 5 ?_
  rw [rounds_succ]
  go_wp2
  rw [rounds_succ]
  go_wp2
  have hS : ((((w1.alloc (.cells #[.int .i64 0, .int .i64 128] 59)).alloc (.cells #[.int .i64 192, .int .i64 2048] 59))).drew).cell? ⟨w1.heap.size + 1, 0, none⟩ = some (.int .i64 192) := by
    have hb := blk_drew (blk_new (w1.alloc (.cells #[.int .i64 0, .int .i64 128] 59)) (.cells #[.int .i64 192, .int .i64 2048] 59))
    try simp only [World.size_alloc] at hb
    exact cI hb 0 rfl
  have n0_ : Aside0 (Below w0.heap.size w0 (((w1.alloc (.cells #[.int .i64 0, .int .i64 128] 59)).alloc (.cells #[.int .i64 192, .int .i64 2048] 59))).drew) := ⟨below_drew1 (by repeat (first | (with_reducible first | exact HB.out | apply below_alloc | apply pw_below_drewN | apply below_drew1) | exact HB.out))⟩
  have n1_ : Aside0 (Row (((w1.alloc (.cells #[.int .i64 0, .int .i64 128] 59)).alloc (.cells #[.int .i64 192, .int .i64 2048] 59))).drew w0.heap.size v o) := ⟨Kd.R_drew (by (with_reducible repeat (first | apply Kd.R_alloc | apply Kd.R_drewN | apply Kd.R_drew)); exact HO.out)⟩
  clear HO HB
  have HB := n0_
  have HO := n1_
  clear n0_ n1_
  refine start_ (n := 12) (S := fun w' => w'.cell? ⟨w1.heap.size + 1, 0, none⟩ = some (.int .i64 192)) (ds := [9, 10]) #[false, false, false, false, false, false, false, false, false, false, false, false] (by kernel_rfl) rfl rfl hS (fun hHeld => ?_)
  generalize (((w1.alloc (.cells #[.int .i64 0, .int .i64 128] 59)).alloc (.cells #[.int .i64 192, .int .i64 2048] 59))).drew = w10 at HO HB hS hHeld ⊢
  refine pure_ (i := 0) (N := some 17) (v := ?_) (a' := ?_) #[true, false, false, false, false, false, false, false, false, false, false, false] rfl rfl (by kernel_rfl) (fun _ _ _ h => h) (Or.inl ⟨by rfl, ?_⟩) ?_ ?_
  rotate_left
  · intro w'
    go_simp
    with_reducible rfl
  rotate_left
  · simp only [Act.put, List.setIfInBounds_toArray, List.set_cons_zero, List.set_cons_succ, i64_w, i32_w]
    rfl
  refine pure_ (i := 1) (N := some 18) (v := ?_) (a' := ?_) #[true, true, false, false, false, false, false, false, false, false, false, false] rfl rfl (by kernel_rfl) (fun _ _ _ h => h) (Or.inl ⟨by rfl, ?_⟩) ?_ ?_
  rotate_left
  · intro w'
    go_simp
    with_reducible rfl
  rotate_left
  · simp only [Act.put, List.setIfInBounds_toArray, List.set_cons_zero, List.set_cons_succ, i64_w, i32_w]
    rfl
  refine pure_ (i := 3) (N := some 20) (v := ?_) (a' := ?_) #[true, true, false, true, false, false, false, false, false, false, false, false] rfl rfl (by kernel_rfl) (fun _ _ _ h => h) (Or.inl ⟨by rfl, ?_⟩) ?_ ?_
  rotate_left
  · intro w'
    go_simp
    with_reducible rfl
  rotate_left
  · simp only [Act.put, List.setIfInBounds_toArray, List.set_cons_zero, List.set_cons_succ, i64_w, i32_w]
    rfl
  refine pure_ (i := 4) (N := some 21) (v := ?_) (a' := ?_) #[true, true, false, true, true, false, false, false, false, false, false, false] rfl rfl (by kernel_rfl) (fun _ _ _ h => h) (Or.inl ⟨by rfl, ?_⟩) ?_ ?_
  rotate_left
  · intro w'
    go_simp
    with_reducible rfl
  rotate_left
  · simp only [Act.put, List.setIfInBounds_toArray, List.set_cons_zero, List.set_cons_succ, i64_w, i32_w]
    rfl
  refine pure_ (i := 5) (N := some 22) (v := ?_) (a' := ?_) #[true, true, false, true, true, true, false, false, false, false, false, false] rfl rfl (by kernel_rfl) (fun _ _ _ h => h) (Or.inl ⟨by rfl, ?_⟩) ?_ ?_
  rotate_left
  · intro w'
    go_simp
    with_reducible rfl
  rotate_left
  · simp only [Act.put, List.setIfInBounds_toArray, List.set_cons_zero, List.set_cons_succ, i64_w, i32_w]
    rfl
  refine take_ (i := 2) (N := some 19) (v := ?_) (a' := ?_) #[true, true, true, true, true, true, false, false, false, false, false, false] rfl rfl (by kernel_rfl) (fun _ _ _ h => h) (Or.inl ⟨by rfl, ?_⟩) hHeld ?_ ?_
  rotate_left
  · rintro w' s0
    go_simp
    with_reducible rfl
  rotate_left
  · simp only [Act.put, List.setIfInBounds_toArray, List.set_cons_zero, List.set_cons_succ, i64_w, i32_w]
    rfl
  refine pure_ (i := 6) (N := some 23) (v := ?_) (a' := ?_) #[true, true, true, true, true, true, true, false, false, false, false, false] rfl rfl (by kernel_rfl) (fun _ _ _ h => h) (Or.inl ⟨by rfl, ?_⟩) ?_ ?_
  rotate_left
  · intro w'
    go_simp
    with_reducible rfl
  rotate_left
  · simp only [Act.put, List.setIfInBounds_toArray, List.set_cons_zero, List.set_cons_succ, i64_w, i32_w]
    rfl
  refine pure_ (i := 7) (N := some 24) (v := ?_) (a' := ?_) #[true, true, true, true, true, true, true, true, false, false, false, false] rfl rfl (by kernel_rfl) (fun _ _ _ h => h) (Or.inl ⟨by rfl, ?_⟩) ?_ ?_
  rotate_left
  · intro w'
    go_simp
    with_reducible rfl
  rotate_left
  · simp only [Act.put, List.setIfInBounds_toArray, List.set_cons_zero, List.set_cons_succ, i64_w, i32_w]
    rfl
  refine pure_ (i := 8) (N := some 25) (v := ?_) (a' := ?_) #[true, true, true, true, true, true, true, true, true, false, false, false] rfl rfl (by kernel_rfl) (fun _ _ _ h => h) (Or.inl ⟨by rfl, ?_⟩) ?_ ?_
  rotate_left
  · intro w'
    go_simp
    with_reducible rfl
  rotate_left
  · simp only [Act.put, List.setIfInBounds_toArray, List.set_cons_zero, List.set_cons_succ, i64_w, i32_w]
    rfl
  refine last_ (i := 9) (N := some 26) #[true, true, true, true, true, true, true, true, true, true, false, false] rfl rfl (by kernel_rfl) (by decide) (fun K hK => ?_)
  refine value_ (w1 := ?_) (v := ?_) (by rfl) rfl ?_ ?_
  rotate_left 2
  · go_simp
    constructor
    · rfl
    · rfl
  refine hK.out _ _ ?_
  clear hK K
  simp only [Act.put, List.setIfInBounds_toArray, List.set_cons_zero, List.set_cons_succ]
  refine last_ (i := 10) (N := some 27) #[true, true, true, true, true, true, true, true, true, true, true, false] rfl rfl (by kernel_rfl) (by decide) (fun K hK => ?_)
  refine Kd.R_append_step (Kd.int .u8) (w0 := w0) w0.heap.size (by rfl) (.tmp 17) (.tmp 26) 24 5 (.int .u8 0) 1 rfl Try.underlying24 info5 rfl (by decide) (by omega) _ _ _ _ (fun _ => True) (fun _ => False) rfl rfl rfl (fun _ hk => hk.elim) (fun _ _ => trivial) (by (with_reducible repeat (first | apply Kd.R_alloc | apply Kd.R_drewN | apply Kd.R_drew)); exact HO.out) (by repeat (first | (with_reducible first | exact HB.out | apply below_alloc | apply pw_below_drewN | apply below_drew1) | exact HB.out)) (below_size (by repeat (first | (with_reducible first | exact HB.out | apply below_alloc | apply pw_below_drewN | apply below_drew1) | exact HB.out))) (by have := HL.out; (try simp only [List.length_append, List.length_cons, List.length_nil]); omega) ?_
  intro v3 w7 ho hb hg hat
  obtain ⟨A3, c3, e3⟩ := Kd.R_slice ho
  subst e3
  simp only [List.length_append, List.length_cons, List.length_nil, Nat.zero_add] at ho
  have HB7 := Aside0.mk hb
  have HO7 := Aside0.mk ho
  clear ho hb hg hat HO HB
  have HB := HB7
  have HO := HO7
  clear HB7 HO7
  refine hK.out _ _ ?_
  clear hK K
  simp only [Act.put, List.getElem_toArray, List.getElem_cons_succ, List.getElem_cons_zero, List.setIfInBounds_toArray, List.set_cons_zero, List.set_cons_succ]
  refine pure_ (i := 11) (N := some 0) (v := ?_) (a' := ?_) #[true, true, true, true, true, true, true, true, true, true, true, true] rfl rfl (by kernel_rfl) (fun _ _ _ h => h) (Or.inl ⟨by rfl, ?_⟩) ?_ ?_
  rotate_left
  · intro w'
    go_simp
    with_reducible rfl
  rotate_left
  · simp only [Act.put, List.setIfInBounds_toArray, List.set_cons_zero, List.set_cons_succ, i64_w, i32_w]
    rfl
  refine done_ (by kernel_rfl) ?_
  go_wp2
  refine wp_loop_rounds 2 ?_
  rw [rounds_succ]
  go_wp2_with ((with_reducible refine gate_builtin (b := .append) (xs := #[.tmp 34, .tmp 42]) rfl ?_); at_builtin; refine Kd.R_append (Kd.int .u8) (w0 := w0) w0.heap.size rfl (.tmp 34) (.tmp 42) 24 5 (.int .u8 0) 1 rfl Try.underlying24 info5 rfl (by decide) (by omega) _ _ _ _ (fun _ => True) (fun _ => False) rfl rfl rfl (fun _ hk => hk.elim) (fun _ _ => trivial) (by (with_reducible repeat (first | apply Kd.R_alloc | apply Kd.R_drewN | apply Kd.R_drew)); exact HO.out) (by repeat (first | (with_reducible first | exact HB.out | apply below_alloc | apply pw_below_drewN | apply below_drew1) | exact HB.out)) (below_size (by repeat (first | (with_reducible first | exact HB.out | apply below_alloc | apply pw_below_drewN | apply below_drew1) | exact HB.out))) (by have := HL.out; (try simp only [List.length_append, List.length_cons, List.length_nil]); omega) ?_; intro v3 w7 ho hb hg hat; obtain ⟨A3, c3, e3⟩ := Kd.R_slice ho; subst e3; simp only [List.length_append, List.length_cons, List.length_nil, Nat.zero_add] at ho; have HB7 := Aside0.mk hb; have HO7 := Aside0.mk ho; clear ho hb hg hat HO HB; have HB := HB7; have HO := HO7; clear HB7 HO7)
  rw [rounds_succ]
  go_wp2_with ((with_reducible refine gate_builtin (b := .append) (xs := #[.tmp 34, .tmp 42]) rfl ?_); at_builtin; refine Kd.R_append (Kd.int .u8) (w0 := w0) w0.heap.size rfl (.tmp 34) (.tmp 42) 24 5 (.int .u8 0) 1 rfl Try.underlying24 info5 rfl (by decide) (by omega) _ _ _ _ (fun _ => True) (fun _ => False) rfl rfl rfl (fun _ hk => hk.elim) (fun _ _ => trivial) (by (with_reducible repeat (first | apply Kd.R_alloc | apply Kd.R_drewN | apply Kd.R_drew)); exact HO.out) (by repeat (first | (with_reducible first | exact HB.out | apply below_alloc | apply pw_below_drewN | apply below_drew1) | exact HB.out)) (below_size (by repeat (first | (with_reducible first | exact HB.out | apply below_alloc | apply pw_below_drewN | apply below_drew1) | exact HB.out))) (by have := HL.out; (try simp only [List.length_append, List.length_cons, List.length_nil]); omega) ?_; intro v3 w7 ho hb hg hat; obtain ⟨A3, c3, e3⟩ := Kd.R_slice ho; subst e3; simp only [List.length_append, List.length_cons, List.length_nil, Nat.zero_add] at ho; have HB7 := Aside0.mk hb; have HO7 := Aside0.mk ho; clear ho hb hg hat HO HB; have HB := HB7; have HO := HO7; clear HB7 HO7)
  go_ret
  have h := HO.out
  have b := HB.out
  rw [head_eq 192 (c / 64) 5 (by decide) (by decide) (by decide) (by omega) (by omega) (by omega), tail_eq (c) (by omega) (by omega)] at h
  have e : bytesF c = [192 + c / 64, 128 + c % 64] := by
    unfold bytesF
    rw [if_neg (by omega), if_pos h1]
  rw [e]
  refine ⟨_, rfl, ?_, b⟩
  simpa using h
set_option maxHeartbeats 8000000 in
set_option maxRecDepth 100000 in
theorem put3 (w0 W : World) (o : List Int) (v : Value) (c : Int) (hrow : Row W w0.heap.size v o) (hB : Below w0.heap.size w0 W) (h0 : 2048 ≤ c) (h1 : c < 65536) (hl : o.length + 4 ≤ 140737488355328) :
    Calls Try.prog 29 #[v, .int .i64 c] W fun e W' => ∃ v', e = .returned v' ∧ Row W' w0.heap.size v' (o ++ bytesF c) ∧ Below w0.heap.size w0 W' := by
  have HO := Aside0.mk hrow
  have HL := Aside0.mk hl
  have HB0 := Aside0.mk hB
  have hu59 := Try.underlying59
  have hu60 := Try.underlying60
  have i0 : ∀ w, (Instr.index 60 (.agg #[.int .i64 0, .int .i64 128, .int .i64 192, .int .i64 2048, .int .i64 224, .int .i64 65536, .int .i64 240, .int .i64 1114112]) (.int .i64 0)).run Try.prog w = .ok (.agg #[.int .i64 0, .int .i64 128]) w := fun _ => by kernel_rfl
  have i1 : ∀ w, (Instr.index 60 (.agg #[.int .i64 0, .int .i64 128, .int .i64 192, .int .i64 2048, .int .i64 224, .int .i64 65536, .int .i64 240, .int .i64 1114112]) (.int .i64 1)).run Try.prog w = .ok (.agg #[.int .i64 192, .int .i64 2048]) w := fun _ => by kernel_rfl
  have i2 : ∀ w, (Instr.index 60 (.agg #[.int .i64 0, .int .i64 128, .int .i64 192, .int .i64 2048, .int .i64 224, .int .i64 65536, .int .i64 240, .int .i64 1114112]) (.int .i64 2)).run Try.prog w = .ok (.agg #[.int .i64 224, .int .i64 65536]) w := fun _ => by kernel_rfl
  have i3 : ∀ w, (Instr.index 60 (.agg #[.int .i64 0, .int .i64 128, .int .i64 192, .int .i64 2048, .int .i64 224, .int .i64 65536, .int .i64 240, .int .i64 1114112]) (.int .i64 3)).run Try.prog w = .ok (.agg #[.int .i64 240, .int .i64 1114112]) w := fun _ => by kernel_rfl
  have c0 : decide (128 ≤ c) = true := decide_eq_true (by omega)
  have c1 : decide (2048 ≤ c) = true := decide_eq_true (by omega)
  have c2 : decide (65536 ≤ c) = false := decide_eq_false (by omega)
  have c3 : decide (1114112 ≤ c) = false := decide_eq_false (by omega)
  have sh0 : ∀ w', (Op.shift BinOp.shr .i64 c .i64 (wrap64 0)).run Try.prog w' = .ok (.int .i64 (c / 2 ^ 0)) w' := sh_of c 0 0 (by omega) (by unfold wrap64; omega)
  have sh1 : ∀ w', (Op.shift BinOp.shr .i64 c .i64 (wrap64 6)).run Try.prog w' = .ok (.int .i64 (c / 2 ^ 6)) w' := sh_of c 6 6 (by omega) (by unfold wrap64; omega)
  have sh2 : ∀ w', (Op.shift BinOp.shr .i64 c .i64 (wrap64 12)).run Try.prog w' = .ok (.int .i64 (c / 2 ^ 12)) w' := sh_of c 12 12 (by omega) (by unfold wrap64; omega)
  clear hrow hB hl
  go_enter Try.func29, Try.ntmps29
  go_wp2_with (go_at_call 32; refine (utf_forms.calls _ _ _ _ _ _ _ _ _ rfl).mono ?_; rintro e w1 ⟨rfl, hb1⟩)
  have n0_ := Aside0.mk (HB0.out.trans (hb1.mono HB0.out.size))
  have n1_ := Aside0.mk (Kd.R_below HO.out hb1)
  clear HO HB0 hb1
  have HB := n0_
  have HO := n1_
  clear n0_ n1_
  refine wp_loop_rounds 5 ?_
  rw [rounds_succ]
  go_wp2
  rw [rounds_succ]
  go_wp2
  rw [rounds_succ]
  go_wp2
  have hS : (((((w1.alloc (.cells #[.int .i64 0, .int .i64 128] 59)).alloc (.cells #[.int .i64 192, .int .i64 2048] 59)).alloc (.cells #[.int .i64 224, .int .i64 65536] 59))).drew).cell? ⟨w1.heap.size + 1 + 1, 0, none⟩ = some (.int .i64 224) := by
    have hb := blk_drew (blk_new ((w1.alloc (.cells #[.int .i64 0, .int .i64 128] 59)).alloc (.cells #[.int .i64 192, .int .i64 2048] 59)) (.cells #[.int .i64 224, .int .i64 65536] 59))
    try simp only [World.size_alloc] at hb
    exact cI hb 0 rfl
  have n0_ : Aside0 (Below w0.heap.size w0 ((((w1.alloc (.cells #[.int .i64 0, .int .i64 128] 59)).alloc (.cells #[.int .i64 192, .int .i64 2048] 59)).alloc (.cells #[.int .i64 224, .int .i64 65536] 59))).drew) := ⟨below_drew1 (by repeat (first | (with_reducible first | exact HB.out | apply below_alloc | apply pw_below_drewN | apply below_drew1) | exact HB.out))⟩
  have n1_ : Aside0 (Row ((((w1.alloc (.cells #[.int .i64 0, .int .i64 128] 59)).alloc (.cells #[.int .i64 192, .int .i64 2048] 59)).alloc (.cells #[.int .i64 224, .int .i64 65536] 59))).drew w0.heap.size v o) := ⟨Kd.R_drew (by (with_reducible repeat (first | apply Kd.R_alloc | apply Kd.R_drewN | apply Kd.R_drew)); exact HO.out)⟩
  clear HO HB
  have HB := n0_
  have HO := n1_
  clear n0_ n1_
  refine start_ (n := 12) (S := fun w' => w'.cell? ⟨w1.heap.size + 1 + 1, 0, none⟩ = some (.int .i64 224)) (ds := [9, 10]) #[false, false, false, false, false, false, false, false, false, false, false, false] (by kernel_rfl) rfl rfl hS (fun hHeld => ?_)
  generalize ((((w1.alloc (.cells #[.int .i64 0, .int .i64 128] 59)).alloc (.cells #[.int .i64 192, .int .i64 2048] 59)).alloc (.cells #[.int .i64 224, .int .i64 65536] 59))).drew = w10 at HO HB hS hHeld ⊢
  refine pure_ (i := 0) (N := some 17) (v := ?_) (a' := ?_) #[true, false, false, false, false, false, false, false, false, false, false, false] rfl rfl (by kernel_rfl) (fun _ _ _ h => h) (Or.inl ⟨by rfl, ?_⟩) ?_ ?_
  rotate_left
  · intro w'
    go_simp
    with_reducible rfl
  rotate_left
  · simp only [Act.put, List.setIfInBounds_toArray, List.set_cons_zero, List.set_cons_succ, i64_w, i32_w]
    rfl
  refine pure_ (i := 1) (N := some 18) (v := ?_) (a' := ?_) #[true, true, false, false, false, false, false, false, false, false, false, false] rfl rfl (by kernel_rfl) (fun _ _ _ h => h) (Or.inl ⟨by rfl, ?_⟩) ?_ ?_
  rotate_left
  · intro w'
    go_simp
    with_reducible rfl
  rotate_left
  · simp only [Act.put, List.setIfInBounds_toArray, List.set_cons_zero, List.set_cons_succ, i64_w, i32_w]
    rfl
  refine pure_ (i := 3) (N := some 20) (v := ?_) (a' := ?_) #[true, true, false, true, false, false, false, false, false, false, false, false] rfl rfl (by kernel_rfl) (fun _ _ _ h => h) (Or.inl ⟨by rfl, ?_⟩) ?_ ?_
  rotate_left
  · intro w'
    go_simp
    with_reducible rfl
  rotate_left
  · simp only [Act.put, List.setIfInBounds_toArray, List.set_cons_zero, List.set_cons_succ, i64_w, i32_w]
    rfl
  refine pure_ (i := 4) (N := some 21) (v := ?_) (a' := ?_) #[true, true, false, true, true, false, false, false, false, false, false, false] rfl rfl (by kernel_rfl) (fun _ _ _ h => h) (Or.inl ⟨by rfl, ?_⟩) ?_ ?_
  rotate_left
  · intro w'
    go_simp
    with_reducible rfl
  rotate_left
  · simp only [Act.put, List.setIfInBounds_toArray, List.set_cons_zero, List.set_cons_succ, i64_w, i32_w]
    rfl
  refine pure_ (i := 5) (N := some 22) (v := ?_) (a' := ?_) #[true, true, false, true, true, true, false, false, false, false, false, false] rfl rfl (by kernel_rfl) (fun _ _ _ h => h) (Or.inl ⟨by rfl, ?_⟩) ?_ ?_
  rotate_left
  · intro w'
    go_simp
    with_reducible rfl
  rotate_left
  · simp only [Act.put, List.setIfInBounds_toArray, List.set_cons_zero, List.set_cons_succ, i64_w, i32_w]
    rfl
  refine take_ (i := 2) (N := some 19) (v := ?_) (a' := ?_) #[true, true, true, true, true, true, false, false, false, false, false, false] rfl rfl (by kernel_rfl) (fun _ _ _ h => h) (Or.inl ⟨by rfl, ?_⟩) hHeld ?_ ?_
  rotate_left
  · rintro w' s0
    go_simp
    with_reducible rfl
  rotate_left
  · simp only [Act.put, List.setIfInBounds_toArray, List.set_cons_zero, List.set_cons_succ, i64_w, i32_w]
    rfl
  refine pure_ (i := 6) (N := some 23) (v := ?_) (a' := ?_) #[true, true, true, true, true, true, true, false, false, false, false, false] rfl rfl (by kernel_rfl) (fun _ _ _ h => h) (Or.inl ⟨by rfl, ?_⟩) ?_ ?_
  rotate_left
  · intro w'
    go_simp
    with_reducible rfl
  rotate_left
  · simp only [Act.put, List.setIfInBounds_toArray, List.set_cons_zero, List.set_cons_succ, i64_w, i32_w]
    rfl
  refine pure_ (i := 7) (N := some 24) (v := ?_) (a' := ?_) #[true, true, true, true, true, true, true, true, false, false, false, false] rfl rfl (by kernel_rfl) (fun _ _ _ h => h) (Or.inl ⟨by rfl, ?_⟩) ?_ ?_
  rotate_left
  · intro w'
    go_simp
    with_reducible rfl
  rotate_left
  · simp only [Act.put, List.setIfInBounds_toArray, List.set_cons_zero, List.set_cons_succ, i64_w, i32_w]
    rfl
  refine pure_ (i := 8) (N := some 25) (v := ?_) (a' := ?_) #[true, true, true, true, true, true, true, true, true, false, false, false] rfl rfl (by kernel_rfl) (fun _ _ _ h => h) (Or.inl ⟨by rfl, ?_⟩) ?_ ?_
  rotate_left
  · intro w'
    go_simp
    with_reducible rfl
  rotate_left
  · simp only [Act.put, List.setIfInBounds_toArray, List.set_cons_zero, List.set_cons_succ, i64_w, i32_w]
    rfl
  refine last_ (i := 9) (N := some 26) #[true, true, true, true, true, true, true, true, true, true, false, false] rfl rfl (by kernel_rfl) (by decide) (fun K hK => ?_)
  refine value_ (w1 := ?_) (v := ?_) (by rfl) rfl ?_ ?_
  rotate_left 2
  · go_simp
    constructor
    · rfl
    · rfl
  refine hK.out _ _ ?_
  clear hK K
  simp only [Act.put, List.setIfInBounds_toArray, List.set_cons_zero, List.set_cons_succ]
  refine last_ (i := 10) (N := some 27) #[true, true, true, true, true, true, true, true, true, true, true, false] rfl rfl (by kernel_rfl) (by decide) (fun K hK => ?_)
  refine Kd.R_append_step (Kd.int .u8) (w0 := w0) w0.heap.size (by rfl) (.tmp 17) (.tmp 26) 24 5 (.int .u8 0) 1 rfl Try.underlying24 info5 rfl (by decide) (by omega) _ _ _ _ (fun _ => True) (fun _ => False) rfl rfl rfl (fun _ hk => hk.elim) (fun _ _ => trivial) (by (with_reducible repeat (first | apply Kd.R_alloc | apply Kd.R_drewN | apply Kd.R_drew)); exact HO.out) (by repeat (first | (with_reducible first | exact HB.out | apply below_alloc | apply pw_below_drewN | apply below_drew1) | exact HB.out)) (below_size (by repeat (first | (with_reducible first | exact HB.out | apply below_alloc | apply pw_below_drewN | apply below_drew1) | exact HB.out))) (by have := HL.out; (try simp only [List.length_append, List.length_cons, List.length_nil]); omega) ?_
  intro v3 w7 ho hb hg hat
  obtain ⟨A3, c3, e3⟩ := Kd.R_slice ho
  subst e3
  simp only [List.length_append, List.length_cons, List.length_nil, Nat.zero_add] at ho
  have HB7 := Aside0.mk hb
  have HO7 := Aside0.mk ho
  clear ho hb hg hat HO HB
  have HB := HB7
  have HO := HO7
  clear HB7 HO7
  refine hK.out _ _ ?_
  clear hK K
  simp only [Act.put, List.getElem_toArray, List.getElem_cons_succ, List.getElem_cons_zero, List.setIfInBounds_toArray, List.set_cons_zero, List.set_cons_succ]
  refine pure_ (i := 11) (N := some 0) (v := ?_) (a' := ?_) #[true, true, true, true, true, true, true, true, true, true, true, true] rfl rfl (by kernel_rfl) (fun _ _ _ h => h) (Or.inl ⟨by rfl, ?_⟩) ?_ ?_
  rotate_left
  · intro w'
    go_simp
    with_reducible rfl
  rotate_left
  · simp only [Act.put, List.setIfInBounds_toArray, List.set_cons_zero, List.set_cons_succ, i64_w, i32_w]
    rfl
  refine done_ (by kernel_rfl) ?_
  go_wp2
  refine wp_loop_rounds 3 ?_
  rw [rounds_succ]
  go_wp2_with ((with_reducible refine gate_builtin (b := .append) (xs := #[.tmp 34, .tmp 42]) rfl ?_); at_builtin; refine Kd.R_append (Kd.int .u8) (w0 := w0) w0.heap.size rfl (.tmp 34) (.tmp 42) 24 5 (.int .u8 0) 1 rfl Try.underlying24 info5 rfl (by decide) (by omega) _ _ _ _ (fun _ => True) (fun _ => False) rfl rfl rfl (fun _ hk => hk.elim) (fun _ _ => trivial) (by (with_reducible repeat (first | apply Kd.R_alloc | apply Kd.R_drewN | apply Kd.R_drew)); exact HO.out) (by repeat (first | (with_reducible first | exact HB.out | apply below_alloc | apply pw_below_drewN | apply below_drew1) | exact HB.out)) (below_size (by repeat (first | (with_reducible first | exact HB.out | apply below_alloc | apply pw_below_drewN | apply below_drew1) | exact HB.out))) (by have := HL.out; (try simp only [List.length_append, List.length_cons, List.length_nil]); omega) ?_; intro v3 w7 ho hb hg hat; obtain ⟨A3, c3, e3⟩ := Kd.R_slice ho; subst e3; simp only [List.length_append, List.length_cons, List.length_nil, Nat.zero_add] at ho; have HB7 := Aside0.mk hb; have HO7 := Aside0.mk ho; clear ho hb hg hat HO HB; have HB := HB7; have HO := HO7; clear HB7 HO7)
  rw [rounds_succ]
  go_wp2_with ((with_reducible refine gate_builtin (b := .append) (xs := #[.tmp 34, .tmp 42]) rfl ?_); at_builtin; refine Kd.R_append (Kd.int .u8) (w0 := w0) w0.heap.size rfl (.tmp 34) (.tmp 42) 24 5 (.int .u8 0) 1 rfl Try.underlying24 info5 rfl (by decide) (by omega) _ _ _ _ (fun _ => True) (fun _ => False) rfl rfl rfl (fun _ hk => hk.elim) (fun _ _ => trivial) (by (with_reducible repeat (first | apply Kd.R_alloc | apply Kd.R_drewN | apply Kd.R_drew)); exact HO.out) (by repeat (first | (with_reducible first | exact HB.out | apply below_alloc | apply pw_below_drewN | apply below_drew1) | exact HB.out)) (below_size (by repeat (first | (with_reducible first | exact HB.out | apply below_alloc | apply pw_below_drewN | apply below_drew1) | exact HB.out))) (by have := HL.out; (try simp only [List.length_append, List.length_cons, List.length_nil]); omega) ?_; intro v3 w7 ho hb hg hat; obtain ⟨A3, c3, e3⟩ := Kd.R_slice ho; subst e3; simp only [List.length_append, List.length_cons, List.length_nil, Nat.zero_add] at ho; have HB7 := Aside0.mk hb; have HO7 := Aside0.mk ho; clear ho hb hg hat HO HB; have HB := HB7; have HO := HO7; clear HB7 HO7)
  rw [rounds_succ]
  go_wp2_with ((with_reducible refine gate_builtin (b := .append) (xs := #[.tmp 34, .tmp 42]) rfl ?_); at_builtin; refine Kd.R_append (Kd.int .u8) (w0 := w0) w0.heap.size rfl (.tmp 34) (.tmp 42) 24 5 (.int .u8 0) 1 rfl Try.underlying24 info5 rfl (by decide) (by omega) _ _ _ _ (fun _ => True) (fun _ => False) rfl rfl rfl (fun _ hk => hk.elim) (fun _ _ => trivial) (by (with_reducible repeat (first | apply Kd.R_alloc | apply Kd.R_drewN | apply Kd.R_drew)); exact HO.out) (by repeat (first | (with_reducible first | exact HB.out | apply below_alloc | apply pw_below_drewN | apply below_drew1) | exact HB.out)) (below_size (by repeat (first | (with_reducible first | exact HB.out | apply below_alloc | apply pw_below_drewN | apply below_drew1) | exact HB.out))) (by have := HL.out; (try simp only [List.length_append, List.length_cons, List.length_nil]); omega) ?_; intro v3 w7 ho hb hg hat; obtain ⟨A3, c3, e3⟩ := Kd.R_slice ho; subst e3; simp only [List.length_append, List.length_cons, List.length_nil, Nat.zero_add] at ho; have HB7 := Aside0.mk hb; have HO7 := Aside0.mk ho; clear ho hb hg hat HO HB; have HB := HB7; have HO := HO7; clear HB7 HO7)
  go_ret
  have h := HO.out
  have b := HB.out
  rw [head_eq 224 (c / 4096) 4 (by decide) (by decide) (by decide) (by omega) (by omega) (by omega), tail_eq (c / 64) (by omega) (by omega), tail_eq (c) (by omega) (by omega)] at h
  have e : bytesF c = [224 + c / 4096, 128 + c / 64 % 64, 128 + c % 64] := by
    unfold bytesF
    rw [if_neg (by omega), if_neg (by omega), if_pos h1]
  rw [e]
  refine ⟨_, rfl, ?_, b⟩
  simpa using h
set_option maxHeartbeats 8000000 in
set_option maxRecDepth 100000 in
theorem put4 (w0 W : World) (o : List Int) (v : Value) (c : Int) (hrow : Row W w0.heap.size v o) (hB : Below w0.heap.size w0 W) (h0 : 65536 ≤ c) (h1 : c < 1114112) (hl : o.length + 4 ≤ 140737488355328) :
    Calls Try.prog 29 #[v, .int .i64 c] W fun e W' => ∃ v', e = .returned v' ∧ Row W' w0.heap.size v' (o ++ bytesF c) ∧ Below w0.heap.size w0 W' := by
  have HO := Aside0.mk hrow
  have HL := Aside0.mk hl
  have HB0 := Aside0.mk hB
  have hu59 := Try.underlying59
  have hu60 := Try.underlying60
  have i0 : ∀ w, (Instr.index 60 (.agg #[.int .i64 0, .int .i64 128, .int .i64 192, .int .i64 2048, .int .i64 224, .int .i64 65536, .int .i64 240, .int .i64 1114112]) (.int .i64 0)).run Try.prog w = .ok (.agg #[.int .i64 0, .int .i64 128]) w := fun _ => by kernel_rfl
  have i1 : ∀ w, (Instr.index 60 (.agg #[.int .i64 0, .int .i64 128, .int .i64 192, .int .i64 2048, .int .i64 224, .int .i64 65536, .int .i64 240, .int .i64 1114112]) (.int .i64 1)).run Try.prog w = .ok (.agg #[.int .i64 192, .int .i64 2048]) w := fun _ => by kernel_rfl
  have i2 : ∀ w, (Instr.index 60 (.agg #[.int .i64 0, .int .i64 128, .int .i64 192, .int .i64 2048, .int .i64 224, .int .i64 65536, .int .i64 240, .int .i64 1114112]) (.int .i64 2)).run Try.prog w = .ok (.agg #[.int .i64 224, .int .i64 65536]) w := fun _ => by kernel_rfl
  have i3 : ∀ w, (Instr.index 60 (.agg #[.int .i64 0, .int .i64 128, .int .i64 192, .int .i64 2048, .int .i64 224, .int .i64 65536, .int .i64 240, .int .i64 1114112]) (.int .i64 3)).run Try.prog w = .ok (.agg #[.int .i64 240, .int .i64 1114112]) w := fun _ => by kernel_rfl
  have c0 : decide (128 ≤ c) = true := decide_eq_true (by omega)
  have c1 : decide (2048 ≤ c) = true := decide_eq_true (by omega)
  have c2 : decide (65536 ≤ c) = true := decide_eq_true (by omega)
  have c3 : decide (1114112 ≤ c) = false := decide_eq_false (by omega)
  have sh0 : ∀ w', (Op.shift BinOp.shr .i64 c .i64 (wrap64 0)).run Try.prog w' = .ok (.int .i64 (c / 2 ^ 0)) w' := sh_of c 0 0 (by omega) (by unfold wrap64; omega)
  have sh1 : ∀ w', (Op.shift BinOp.shr .i64 c .i64 (wrap64 6)).run Try.prog w' = .ok (.int .i64 (c / 2 ^ 6)) w' := sh_of c 6 6 (by omega) (by unfold wrap64; omega)
  have sh2 : ∀ w', (Op.shift BinOp.shr .i64 c .i64 (wrap64 12)).run Try.prog w' = .ok (.int .i64 (c / 2 ^ 12)) w' := sh_of c 12 12 (by omega) (by unfold wrap64; omega)
  have sh3 : ∀ w', (Op.shift BinOp.shr .i64 c .i64 (wrap64 18)).run Try.prog w' = .ok (.int .i64 (c / 2 ^ 18)) w' := sh_of c 18 18 (by omega) (by unfold wrap64; omega)
  clear hrow hB hl
  go_enter Try.func29, Try.ntmps29
  go_wp2_with (go_at_call 32; refine (utf_forms.calls _ _ _ _ _ _ _ _ _ rfl).mono ?_; rintro e w1 ⟨rfl, hb1⟩)
  have n0_ := Aside0.mk (HB0.out.trans (hb1.mono HB0.out.size))
  have n1_ := Aside0.mk (Kd.R_below HO.out hb1)
  clear HO HB0 hb1
  have HB := n0_
  have HO := n1_
  clear n0_ n1_
  refine wp_loop_rounds 5 ?_
  rw [rounds_succ]
  go_wp2
  rw [rounds_succ]
  go_wp2
  rw [rounds_succ]
  go_wp2
  rw [rounds_succ]
  go_wp2
  have hS : ((((((w1.alloc (.cells #[.int .i64 0, .int .i64 128] 59)).alloc (.cells #[.int .i64 192, .int .i64 2048] 59)).alloc (.cells #[.int .i64 224, .int .i64 65536] 59)).alloc (.cells #[.int .i64 240, .int .i64 1114112] 59))).drew).cell? ⟨w1.heap.size + 1 + 1 + 1, 0, none⟩ = some (.int .i64 240) := by
    have hb := blk_drew (blk_new (((w1.alloc (.cells #[.int .i64 0, .int .i64 128] 59)).alloc (.cells #[.int .i64 192, .int .i64 2048] 59)).alloc (.cells #[.int .i64 224, .int .i64 65536] 59)) (.cells #[.int .i64 240, .int .i64 1114112] 59))
    try simp only [World.size_alloc] at hb
    exact cI hb 0 rfl
  have n0_ : Aside0 (Below w0.heap.size w0 (((((w1.alloc (.cells #[.int .i64 0, .int .i64 128] 59)).alloc (.cells #[.int .i64 192, .int .i64 2048] 59)).alloc (.cells #[.int .i64 224, .int .i64 65536] 59)).alloc (.cells #[.int .i64 240, .int .i64 1114112] 59))).drew) := ⟨below_drew1 (by repeat (first | (with_reducible first | exact HB.out | apply below_alloc | apply pw_below_drewN | apply below_drew1) | exact HB.out))⟩
  have n1_ : Aside0 (Row (((((w1.alloc (.cells #[.int .i64 0, .int .i64 128] 59)).alloc (.cells #[.int .i64 192, .int .i64 2048] 59)).alloc (.cells #[.int .i64 224, .int .i64 65536] 59)).alloc (.cells #[.int .i64 240, .int .i64 1114112] 59))).drew w0.heap.size v o) := ⟨Kd.R_drew (by (with_reducible repeat (first | apply Kd.R_alloc | apply Kd.R_drewN | apply Kd.R_drew)); exact HO.out)⟩
  clear HO HB
  have HB := n0_
  have HO := n1_
  clear n0_ n1_
  refine start_ (n := 12) (S := fun w' => w'.cell? ⟨w1.heap.size + 1 + 1 + 1, 0, none⟩ = some (.int .i64 240)) (ds := [9, 10]) #[false, false, false, false, false, false, false, false, false, false, false, false] (by kernel_rfl) rfl rfl hS (fun hHeld => ?_)
  generalize (((((w1.alloc (.cells #[.int .i64 0, .int .i64 128] 59)).alloc (.cells #[.int .i64 192, .int .i64 2048] 59)).alloc (.cells #[.int .i64 224, .int .i64 65536] 59)).alloc (.cells #[.int .i64 240, .int .i64 1114112] 59))).drew = w10 at HO HB hS hHeld ⊢
  refine pure_ (i := 0) (N := some 17) (v := ?_) (a' := ?_) #[true, false, false, false, false, false, false, false, false, false, false, false] rfl rfl (by kernel_rfl) (fun _ _ _ h => h) (Or.inl ⟨by rfl, ?_⟩) ?_ ?_
  rotate_left
  · intro w'
    go_simp
    with_reducible rfl
  rotate_left
  · simp only [Act.put, List.setIfInBounds_toArray, List.set_cons_zero, List.set_cons_succ, i64_w, i32_w]
    rfl
  refine pure_ (i := 1) (N := some 18) (v := ?_) (a' := ?_) #[true, true, false, false, false, false, false, false, false, false, false, false] rfl rfl (by kernel_rfl) (fun _ _ _ h => h) (Or.inl ⟨by rfl, ?_⟩) ?_ ?_
  rotate_left
  · intro w'
    go_simp
    with_reducible rfl
  rotate_left
  · simp only [Act.put, List.setIfInBounds_toArray, List.set_cons_zero, List.set_cons_succ, i64_w, i32_w]
    rfl
  refine pure_ (i := 3) (N := some 20) (v := ?_) (a' := ?_) #[true, true, false, true, false, false, false, false, false, false, false, false] rfl rfl (by kernel_rfl) (fun _ _ _ h => h) (Or.inl ⟨by rfl, ?_⟩) ?_ ?_
  rotate_left
  · intro w'
    go_simp
    with_reducible rfl
  rotate_left
  · simp only [Act.put, List.setIfInBounds_toArray, List.set_cons_zero, List.set_cons_succ, i64_w, i32_w]
    rfl
  refine pure_ (i := 4) (N := some 21) (v := ?_) (a' := ?_) #[true, true, false, true, true, false, false, false, false, false, false, false] rfl rfl (by kernel_rfl) (fun _ _ _ h => h) (Or.inl ⟨by rfl, ?_⟩) ?_ ?_
  rotate_left
  · intro w'
    go_simp
    with_reducible rfl
  rotate_left
  · simp only [Act.put, List.setIfInBounds_toArray, List.set_cons_zero, List.set_cons_succ, i64_w, i32_w]
    rfl
  refine pure_ (i := 5) (N := some 22) (v := ?_) (a' := ?_) #[true, true, false, true, true, true, false, false, false, false, false, false] rfl rfl (by kernel_rfl) (fun _ _ _ h => h) (Or.inl ⟨by rfl, ?_⟩) ?_ ?_
  rotate_left
  · intro w'
    go_simp
    with_reducible rfl
  rotate_left
  · simp only [Act.put, List.setIfInBounds_toArray, List.set_cons_zero, List.set_cons_succ, i64_w, i32_w]
    rfl
  refine take_ (i := 2) (N := some 19) (v := ?_) (a' := ?_) #[true, true, true, true, true, true, false, false, false, false, false, false] rfl rfl (by kernel_rfl) (fun _ _ _ h => h) (Or.inl ⟨by rfl, ?_⟩) hHeld ?_ ?_
  rotate_left
  · rintro w' s0
    go_simp
    with_reducible rfl
  rotate_left
  · simp only [Act.put, List.setIfInBounds_toArray, List.set_cons_zero, List.set_cons_succ, i64_w, i32_w]
    rfl
  refine pure_ (i := 6) (N := some 23) (v := ?_) (a' := ?_) #[true, true, true, true, true, true, true, false, false, false, false, false] rfl rfl (by kernel_rfl) (fun _ _ _ h => h) (Or.inl ⟨by rfl, ?_⟩) ?_ ?_
  rotate_left
  · intro w'
    go_simp
    with_reducible rfl
  rotate_left
  · simp only [Act.put, List.setIfInBounds_toArray, List.set_cons_zero, List.set_cons_succ, i64_w, i32_w]
    rfl
  refine pure_ (i := 7) (N := some 24) (v := ?_) (a' := ?_) #[true, true, true, true, true, true, true, true, false, false, false, false] rfl rfl (by kernel_rfl) (fun _ _ _ h => h) (Or.inl ⟨by rfl, ?_⟩) ?_ ?_
  rotate_left
  · intro w'
    go_simp
    with_reducible rfl
  rotate_left
  · simp only [Act.put, List.setIfInBounds_toArray, List.set_cons_zero, List.set_cons_succ, i64_w, i32_w]
    rfl
  refine pure_ (i := 8) (N := some 25) (v := ?_) (a' := ?_) #[true, true, true, true, true, true, true, true, true, false, false, false] rfl rfl (by kernel_rfl) (fun _ _ _ h => h) (Or.inl ⟨by rfl, ?_⟩) ?_ ?_
  rotate_left
  · intro w'
    go_simp
    with_reducible rfl
  rotate_left
  · simp only [Act.put, List.setIfInBounds_toArray, List.set_cons_zero, List.set_cons_succ, i64_w, i32_w]
    rfl
  refine last_ (i := 9) (N := some 26) #[true, true, true, true, true, true, true, true, true, true, false, false] rfl rfl (by kernel_rfl) (by decide) (fun K hK => ?_)
  refine value_ (w1 := ?_) (v := ?_) (by rfl) rfl ?_ ?_
  rotate_left 2
  · go_simp
    constructor
    · rfl
    · rfl
  refine hK.out _ _ ?_
  clear hK K
  simp only [Act.put, List.setIfInBounds_toArray, List.set_cons_zero, List.set_cons_succ]
  refine last_ (i := 10) (N := some 27) #[true, true, true, true, true, true, true, true, true, true, true, false] rfl rfl (by kernel_rfl) (by decide) (fun K hK => ?_)
  refine Kd.R_append_step (Kd.int .u8) (w0 := w0) w0.heap.size (by rfl) (.tmp 17) (.tmp 26) 24 5 (.int .u8 0) 1 rfl Try.underlying24 info5 rfl (by decide) (by omega) _ _ _ _ (fun _ => True) (fun _ => False) rfl rfl rfl (fun _ hk => hk.elim) (fun _ _ => trivial) (by (with_reducible repeat (first | apply Kd.R_alloc | apply Kd.R_drewN | apply Kd.R_drew)); exact HO.out) (by repeat (first | (with_reducible first | exact HB.out | apply below_alloc | apply pw_below_drewN | apply below_drew1) | exact HB.out)) (below_size (by repeat (first | (with_reducible first | exact HB.out | apply below_alloc | apply pw_below_drewN | apply below_drew1) | exact HB.out))) (by have := HL.out; (try simp only [List.length_append, List.length_cons, List.length_nil]); omega) ?_
  intro v3 w7 ho hb hg hat
  obtain ⟨A3, c3, e3⟩ := Kd.R_slice ho
  subst e3
  simp only [List.length_append, List.length_cons, List.length_nil, Nat.zero_add] at ho
  have HB7 := Aside0.mk hb
  have HO7 := Aside0.mk ho
  clear ho hb hg hat HO HB
  have HB := HB7
  have HO := HO7
  clear HB7 HO7
  refine hK.out _ _ ?_
  clear hK K
  simp only [Act.put, List.getElem_toArray, List.getElem_cons_succ, List.getElem_cons_zero, List.setIfInBounds_toArray, List.set_cons_zero, List.set_cons_succ]
  refine pure_ (i := 11) (N := some 0) (v := ?_) (a' := ?_) #[true, true, true, true, true, true, true, true, true, true, true, true] rfl rfl (by kernel_rfl) (fun _ _ _ h => h) (Or.inl ⟨by rfl, ?_⟩) ?_ ?_
  rotate_left
  · intro w'
    go_simp
    with_reducible rfl
  rotate_left
  · simp only [Act.put, List.setIfInBounds_toArray, List.set_cons_zero, List.set_cons_succ, i64_w, i32_w]
    rfl
  refine done_ (by kernel_rfl) ?_
  go_wp2
  refine wp_loop_rounds 4 ?_
  rw [rounds_succ]
  go_wp2_with ((with_reducible refine gate_builtin (b := .append) (xs := #[.tmp 34, .tmp 42]) rfl ?_); at_builtin; refine Kd.R_append (Kd.int .u8) (w0 := w0) w0.heap.size rfl (.tmp 34) (.tmp 42) 24 5 (.int .u8 0) 1 rfl Try.underlying24 info5 rfl (by decide) (by omega) _ _ _ _ (fun _ => True) (fun _ => False) rfl rfl rfl (fun _ hk => hk.elim) (fun _ _ => trivial) (by (with_reducible repeat (first | apply Kd.R_alloc | apply Kd.R_drewN | apply Kd.R_drew)); exact HO.out) (by repeat (first | (with_reducible first | exact HB.out | apply below_alloc | apply pw_below_drewN | apply below_drew1) | exact HB.out)) (below_size (by repeat (first | (with_reducible first | exact HB.out | apply below_alloc | apply pw_below_drewN | apply below_drew1) | exact HB.out))) (by have := HL.out; (try simp only [List.length_append, List.length_cons, List.length_nil]); omega) ?_; intro v3 w7 ho hb hg hat; obtain ⟨A3, c3, e3⟩ := Kd.R_slice ho; subst e3; simp only [List.length_append, List.length_cons, List.length_nil, Nat.zero_add] at ho; have HB7 := Aside0.mk hb; have HO7 := Aside0.mk ho; clear ho hb hg hat HO HB; have HB := HB7; have HO := HO7; clear HB7 HO7)
  rw [rounds_succ]
  go_wp2_with ((with_reducible refine gate_builtin (b := .append) (xs := #[.tmp 34, .tmp 42]) rfl ?_); at_builtin; refine Kd.R_append (Kd.int .u8) (w0 := w0) w0.heap.size rfl (.tmp 34) (.tmp 42) 24 5 (.int .u8 0) 1 rfl Try.underlying24 info5 rfl (by decide) (by omega) _ _ _ _ (fun _ => True) (fun _ => False) rfl rfl rfl (fun _ hk => hk.elim) (fun _ _ => trivial) (by (with_reducible repeat (first | apply Kd.R_alloc | apply Kd.R_drewN | apply Kd.R_drew)); exact HO.out) (by repeat (first | (with_reducible first | exact HB.out | apply below_alloc | apply pw_below_drewN | apply below_drew1) | exact HB.out)) (below_size (by repeat (first | (with_reducible first | exact HB.out | apply below_alloc | apply pw_below_drewN | apply below_drew1) | exact HB.out))) (by have := HL.out; (try simp only [List.length_append, List.length_cons, List.length_nil]); omega) ?_; intro v3 w7 ho hb hg hat; obtain ⟨A3, c3, e3⟩ := Kd.R_slice ho; subst e3; simp only [List.length_append, List.length_cons, List.length_nil, Nat.zero_add] at ho; have HB7 := Aside0.mk hb; have HO7 := Aside0.mk ho; clear ho hb hg hat HO HB; have HB := HB7; have HO := HO7; clear HB7 HO7)
  rw [rounds_succ]
  go_wp2_with ((with_reducible refine gate_builtin (b := .append) (xs := #[.tmp 34, .tmp 42]) rfl ?_); at_builtin; refine Kd.R_append (Kd.int .u8) (w0 := w0) w0.heap.size rfl (.tmp 34) (.tmp 42) 24 5 (.int .u8 0) 1 rfl Try.underlying24 info5 rfl (by decide) (by omega) _ _ _ _ (fun _ => True) (fun _ => False) rfl rfl rfl (fun _ hk => hk.elim) (fun _ _ => trivial) (by (with_reducible repeat (first | apply Kd.R_alloc | apply Kd.R_drewN | apply Kd.R_drew)); exact HO.out) (by repeat (first | (with_reducible first | exact HB.out | apply below_alloc | apply pw_below_drewN | apply below_drew1) | exact HB.out)) (below_size (by repeat (first | (with_reducible first | exact HB.out | apply below_alloc | apply pw_below_drewN | apply below_drew1) | exact HB.out))) (by have := HL.out; (try simp only [List.length_append, List.length_cons, List.length_nil]); omega) ?_; intro v3 w7 ho hb hg hat; obtain ⟨A3, c3, e3⟩ := Kd.R_slice ho; subst e3; simp only [List.length_append, List.length_cons, List.length_nil, Nat.zero_add] at ho; have HB7 := Aside0.mk hb; have HO7 := Aside0.mk ho; clear ho hb hg hat HO HB; have HB := HB7; have HO := HO7; clear HB7 HO7)
  rw [rounds_succ]
  go_wp2_with ((with_reducible refine gate_builtin (b := .append) (xs := #[.tmp 34, .tmp 42]) rfl ?_); at_builtin; refine Kd.R_append (Kd.int .u8) (w0 := w0) w0.heap.size rfl (.tmp 34) (.tmp 42) 24 5 (.int .u8 0) 1 rfl Try.underlying24 info5 rfl (by decide) (by omega) _ _ _ _ (fun _ => True) (fun _ => False) rfl rfl rfl (fun _ hk => hk.elim) (fun _ _ => trivial) (by (with_reducible repeat (first | apply Kd.R_alloc | apply Kd.R_drewN | apply Kd.R_drew)); exact HO.out) (by repeat (first | (with_reducible first | exact HB.out | apply below_alloc | apply pw_below_drewN | apply below_drew1) | exact HB.out)) (below_size (by repeat (first | (with_reducible first | exact HB.out | apply below_alloc | apply pw_below_drewN | apply below_drew1) | exact HB.out))) (by have := HL.out; (try simp only [List.length_append, List.length_cons, List.length_nil]); omega) ?_; intro v3 w7 ho hb hg hat; obtain ⟨A3, c3, e3⟩ := Kd.R_slice ho; subst e3; simp only [List.length_append, List.length_cons, List.length_nil, Nat.zero_add] at ho; have HB7 := Aside0.mk hb; have HO7 := Aside0.mk ho; clear ho hb hg hat HO HB; have HB := HB7; have HO := HO7; clear HB7 HO7)
  go_ret
  have h := HO.out
  have b := HB.out
  rw [head_eq 240 (c / 262144) 3 (by decide) (by decide) (by decide) (by omega) (by omega) (by omega), tail_eq (c / 4096) (by omega) (by omega), tail_eq (c / 64) (by omega) (by omega), tail_eq (c) (by omega) (by omega)] at h
  have e : bytesF c = [240 + c / 262144, 128 + c / 4096 % 64, 128 + c / 64 % 64, 128 + c % 64] := by
    unfold bytesF
    rw [if_neg (by omega), if_neg (by omega), if_neg (by omega)]
  rw [e]
  refine ⟨_, rfl, ?_, b⟩
  simpa using h
end Go.Proofs.Ytijikaihmaganaa.P
