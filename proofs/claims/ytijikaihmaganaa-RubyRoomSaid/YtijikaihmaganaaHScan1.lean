/- utf.must, and the closure that scan defers. -/
import Derived.Test.YtijikaihmaganaaHNext
import Derived.RangeFuncBox
import Derived.RangeFuncNested
import Derived.Recover
import Derived.Defers
import Derived.WalkLawsBesides
import Derived.Laws.Pointers
namespace Go.Proofs.Ytijikaihmaganaa.P
open Go.RowKit Go.Shelf Go.Proofs.YtijikaihmaganaaW.PrintWords Go.Proofs.YtijikaihmaganaaW.PrintLast Go.Proofs.YtijikaihmaganaaW.PrintMore
set_option linter.unusedVariables false
set_option linter.unusedSimpArgs false

theorem next_calls (A0 : Option Addr) (c0 n : Nat) (l0 : List Int) (w : World) (hr0 : Kd.C (Kd.int .u8) w A0 l0.length l0) (hc0 : l0.length ≤ c0) (hb : l0.all byteB = true) (hl : l0.length < 9223372036854775807) (hn : l0.length = n) :
    Calls Try.prog 15 #[.slice A0 n c0] w fun e w' => e = .returned (.tuple #[.int .i64 (nextL l0).1, .int .i64 (nextL l0).2.1, .int .i64 (nextL l0).2.2]) ∧ Below w.heap.size w w' := by
  subst hn
  exact utf_Next.calls A0 c0 l0 _ _ _ w hr0 hc0 (by unfold utf_Next.f; rw [if_pos ⟨hb, hl⟩])
theorem all_drop {l : List Int} (h : l.all byteB = true) (i : Nat) : (l.drop i).all byteB = true := by
  rw [List.all_eq_true] at h ⊢
  exact fun x hx => h x (List.mem_of_mem_drop hx)
set_option maxHeartbeats 4000000 in
set_option maxRecDepth 100000 in
theorem must_ok (A0 : Option Addr) (c0 i : Nat) (l0 : List Int) (w : World) (hr0 : Kd.C (Kd.int .u8) w A0 l0.length l0) (hc0 : l0.length ≤ c0) (hb : l0.all byteB = true) (hl : l0.length < 9223372036854775807) (hi : i < l0.length) (h : (nextL (l0.drop i)).2.2 = 0) :
    Calls Try.prog 40 #[.slice A0 l0.length c0, .int .i64 (i : Int)] w fun e w' => e = .returned (.tuple #[.int .i64 (nextL (l0.drop i)).1, .int .i64 (nextL (l0.drop i)).2.1]) ∧ Below w.heap.size w w' := by
  have HN := Aside0.mk (next_calls (A0.map (·.add i)) (c0 - i) (l0.length - i) (l0.drop i) w (by
    have := Kd.C_drop (m := i) hr0 (by omega) hc0
    rw [if_neg (by omega), show (Kd.int IntKind.u8).sz = 1 from rfl] at this
    simpa using this) (by rw [List.length_drop]; omega) (all_drop hb i) (by rw [List.length_drop]; omega) (by rw [List.length_drop]))
  obtain ⟨N, hN⟩ : ∃ N, nextL (l0.drop i) = N := ⟨_, rfl⟩
  rw [hN] at HN h ⊢
  obtain ⟨ad, e, _⟩ := Kd.at_int hr0 0 (by omega) (by omega)
  subst e
  have s1 : (i ≤ l0.length) = True := eq_true (by omega)
  have s2 : (l0.length ≤ c0) = True := eq_true hc0
  have s3 : (c0 = i) = False := eq_false (by omega)
  have s4 : (i ≤ c0) = True := eq_true (by omega)
  have hi0 : (0 : Int) ≤ (i : Int) := by omega
  have h9 : (N.2.2 != 0) = false := by rw [h]; rfl
  clear hr0 hb hl hi h
  go_enter Try.func40, Try.ntmps40
  go_wp2_with (go_at_call 15; refine HN.out.mono ?_; rintro e w1 ⟨rfl, hb1⟩)
  go_ret2
  exact ⟨rfl, hb1⟩
set_option maxHeartbeats 4000000 in
set_option maxRecDepth 100000 in
theorem must_no (A0 : Option Addr) (c0 i : Nat) (l0 : List Int) (w : World) (hr0 : Kd.C (Kd.int .u8) w A0 l0.length l0) (hc0 : l0.length ≤ c0) (hb : l0.all byteB = true) (hl : l0.length < 9223372036854775807) (hi : i < l0.length) (h : ¬ (nextL (l0.drop i)).2.2 = 0) :
    Calls Try.prog 40 #[.slice A0 l0.length c0, .int .i64 (i : Int)] w fun e w' => e = .panicked [{ v := .iface 3 (.int .i64 (i : Int)), recovered := false }] ∧ Below w.heap.size w w' := by
  have HN := Aside0.mk (next_calls (A0.map (·.add i)) (c0 - i) (l0.length - i) (l0.drop i) w (by
    have := Kd.C_drop (m := i) hr0 (by omega) hc0
    rw [if_neg (by omega), show (Kd.int IntKind.u8).sz = 1 from rfl] at this
    simpa using this) (by rw [List.length_drop]; omega) (all_drop hb i) (by rw [List.length_drop]; omega) (by rw [List.length_drop]))
  obtain ⟨N, hN⟩ : ∃ N, nextL (l0.drop i) = N := ⟨_, rfl⟩
  rw [hN] at HN h
  obtain ⟨ad, e, _⟩ := Kd.at_int hr0 0 (by omega) (by omega)
  subst e
  have s1 : (i ≤ l0.length) = True := eq_true (by omega)
  have s2 : (l0.length ≤ c0) = True := eq_true hc0
  have s3 : (c0 = i) = False := eq_false (by omega)
  have s4 : (i ≤ c0) = True := eq_true (by omega)
  have hi0 : (0 : Int) ≤ (i : Int) := by omega
  have h9 : (N.2.2 != 0) = true := bne_iff_ne.2 h
  clear hr0 hb hl hi h
  go_enter Try.func40, Try.ntmps40
  go_wp2_with (go_at_call 15; refine HN.out.mono ?_; rintro e w1 ⟨rfl, hb1⟩)
  exact ⟨rfl, rfl, hb1⟩
set_option maxHeartbeats 4000000 in
set_option maxRecDepth 100000 in
theorem catch_idle (p q r : Addr) (w : World) :
    CallsD Try.prog 39 #[.pointer (some p), .pointer (some q), .pointer (some r)] .returning w fun e u' w' => e = .returned (.tuple #[]) ∧ u' = .returning ∧ w' = w := by
  refine callsD_of_wpS Try.func39 rfl fun c₀ cs hu => ?_
  apply wpS_seq
  apply wpS_region
  simp [wpOpsS, go_sem, recoverD, hu, Try.ntmps39, Exit.thenS]
  apply wpS_seq
  apply wpS_region
  simp [wpOpsS, go_sem, Exit.thenS]
  refine wpS_cond (t := false) (by simp [Act.eval, Array.replicate]) ?_
  simp only [Bool.false_eq_true, if_false]
  refine wpS_of_wp (wp_skip ?_)
  cases c₀
  simp_all [bodyPostS, results, Try.results39]
set_option maxHeartbeats 4000000 in
set_option maxRecDepth 100000 in
theorem catch_panic (b2 b3 b4 : Nat) (v : Value) (i : Int) (w : World) (h2 : Boxed w b2 22 v) (h3 : Boxed w b3 3 (.int .i64 0)) (h4 : Boxed w b4 4 (.bool false)) (n23 : b2 ≠ b3) (n24 : b2 ≠ b4) (n34 : b3 ≠ b4) :
    CallsD Try.prog 39 #[.pointer (some ⟨b2, 0, none⟩), .pointer (some ⟨b3, 0, none⟩), .pointer (some ⟨b4, 0, none⟩)] (.panicking [{ v := .iface 3 (.int .i64 i), recovered := false }]) w fun e u' w' =>
      e = .returned (.tuple #[]) ∧ u' = .panicking [{ v := .iface 3 (.int .i64 i), recovered := true }] ∧ Boxed w' b2 22 (.slice none 0 0) ∧ Boxed w' b3 3 (.int .i64 i) ∧ Boxed w' b4 4 (.bool true) ∧ ∀ n, n ≤ b2 → n ≤ b3 → n ≤ b4 → Below n w w' := by
  refine callsD_of_wpS Try.func39 rfl fun c₀ cs hu => ?_
  apply wpS_seq
  apply wpS_region
  simp [wpOpsS, go_sem, recoverD, hu, Try.ntmps39, Exit.thenS]
  apply wpS_seq
  apply wpS_region
  simp [wpOpsS, go_sem, Exit.thenS]
  refine wpS_cond (t := true) (by simp [Act.eval, Array.replicate]) ?_
  simp only [if_true]
  refine wpS_of_wp ?_
  simp only [Array.replicate_succ, Array.replicate_zero, List.push_toArray, List.nil_append, List.cons_append, List.setIfInBounds_toArray, List.set_cons_zero, List.set_cons_succ, List.append_toArray]
  have hta : ∀ w', (Instr.typeAssert (.iface 3 (.int .i64 i)) 20 3 false).run Try.prog w' = .ok (.int .i64 i) w' := fun _ => by kernel_rfl
  have k2 : Boxed w.drew b2 22 v := blk_drew h2
  have k3 : Boxed w.drew b3 3 (.int .i64 0) := blk_drew h3
  have k4 : Boxed w.drew b4 4 (.bool false) := blk_drew h4
  have kb : ∀ n, Below n w w.drew := fun n => below_drew (Below.refl n w)
  refine start_ (n := 5) (S := fun _ => True) (ds := [2, 3, 4]) #[false, false, false, false, false] (by kernel_rfl) rfl rfl trivial (fun hHeld => ?_)
  generalize w.drew = w10 at k2 k3 k4 kb ⊢
  have p3 := k3.other (B' := b2) (fun e => n23 e.symm) (.slice none 0 0)
  have p4 := (k4.other (B' := b2) (fun e => n24 e.symm) (.slice none 0 0)).other (B' := b3) (fun e => n34 e.symm) (.int .i64 i)
  have a2 := k2.cell
  have a3 := p3.cell
  have a4 := p4.cell
  have b2' := k2.frozen
  have b3' := p3.frozen
  have b4' := p4.frozen
  refine pure_ (i := 0) (N := some 7) (v := ?_) (a' := ?_) #[true, false, false, false, false] rfl rfl (by kernel_rfl) (fun _ _ _ h => h) (Or.inl ⟨by rfl, ?_⟩) ?_ ?_
  rotate_left
  · intro w'
    go_simp
    with_reducible rfl
  rotate_left
  · simp only [Act.put, List.setIfInBounds_toArray, List.set_cons_zero, List.set_cons_succ, i64_w, i32_w]
    rfl
  refine pure_ (i := 1) (N := some 8) (v := ?_) (a' := ?_) #[true, true, false, false, false] rfl rfl (by kernel_rfl) (fun _ _ _ h => h) (Or.inl ⟨by rfl, ?_⟩) ?_ ?_
  rotate_left
  · intro w'
    go_simp
    with_reducible rfl
  rotate_left
  · simp only [Act.put, List.setIfInBounds_toArray, List.set_cons_zero, List.set_cons_succ, i64_w, i32_w]
    rfl
  refine last_ (i := 2) (N := none) #[true, true, true, false, false] rfl rfl (by kernel_rfl) (by decide) (fun K hK => ?_)
  refine skip_ (w1 := ?_) (by rfl) rfl ?_ ?_
  rotate_left
  · go_simp
    rfl
  refine hK.out _ _ ?_
  clear hK K
  refine last_ (i := 3) (N := none) #[true, true, true, true, false] rfl rfl (by kernel_rfl) (by decide) (fun K hK => ?_)
  refine skip_ (w1 := ?_) (by rfl) rfl ?_ ?_
  rotate_left
  · go_simp
    rfl
  refine hK.out _ _ ?_
  clear hK K
  refine last_ (i := 4) (N := none) #[true, true, true, true, true] rfl rfl (by kernel_rfl) (by decide) (fun K hK => ?_)
  refine skip_ (w1 := ?_) (by rfl) rfl ?_ ?_
  rotate_left
  · go_simp
    rfl
  refine hK.out _ _ ?_
  clear hK K
  refine done_ (by kernel_rfl) ?_
  have q2 := ((k2.set (.slice none 0 0)).other (B' := b3) n23 (.int .i64 i)).other (B' := b4) n24 (.bool true)
  have q3 := (p3.set (.int .i64 i)).other (B' := b4) n34 (.bool true)
  have q4 := p4.set (.bool true)
  have q5 : ∀ n, n ≤ b2 → n ≤ b3 → n ≤ b4 → Below n w (((w10.setCell ⟨b2, 0, none⟩ (.slice none 0 0)).setCell ⟨b3, 0, none⟩ (.int .i64 i)).setCell ⟨b4, 0, none⟩ (.bool true)) := fun n x2 x3 x4 => (((kb n).setCell x2 _).setCell x3 _).setCell x4 _
  generalize (((w10.setCell ⟨b2, 0, none⟩ (.slice none 0 0)).setCell ⟨b3, 0, none⟩ (.int .i64 i)).setCell ⟨b4, 0, none⟩ (.bool true)) = w11 at q2 q3 q4 q5 ⊢
  simp [bodyPostS, results, Try.results39]
  exact ⟨q2, q3, q4, q5⟩
end Go.Proofs.Ytijikaihmaganaa.P
