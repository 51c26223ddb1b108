/- breaks.rules: what its ten literals answer, what says makes of each, and the slice of the ten; no condition. -/
import Derived.Test.YtbcflgiapiclgaaP0
import Derived.Shelf.Abstract
import Derived.Laws.EntriesVeiled
namespace Go.Proofs.Ytbcflgiapiclgaa.P
open Go.RowKit Go.Shelf Go.Proofs.YtbcflgiapiclgaaW.PrintWords Go.Proofs.YtbcflgiapiclgaaW.PrintLast Go.Proofs.YtbcflgiapiclgaaW.PrintMore
set_option linter.unusedVariables false
set_option linter.unusedSimpArgs false

def opB (k : Int) : Bool := k == 8 || (k == 9 || k == 11)
def woB (k : Int) : Bool := k == 0 || k == 1
theorem op_calls (k : Int) (w : World) : Calls Try.prog 19 #[.int .i64 k] w fun e w' => e = .returned (.bool (opB k)) ∧ w' = w := by
  cases h1 : (k == 8)
  · cases h2 : (k == 9)
    · go_enter Try.func19, Try.ntmps19
      go_wp2
      go_ret
      exact ⟨by simp [opB, h1, h2], rfl⟩
    · go_enter Try.func19, Try.ntmps19
      go_wp2
      go_ret
      exact ⟨by simp [opB, h1, h2], rfl⟩
  · go_enter Try.func19, Try.ntmps19
    go_wp2
    go_ret
    exact ⟨by simp [opB, h1], rfl⟩
theorem wo_calls (k : Int) (w : World) : Calls Try.prog 33 #[.int .i64 k] w fun e w' => e = .returned (.bool (woB k)) ∧ w' = w := by
  cases h1 : (k == 0)
  · go_enter Try.func33, Try.ntmps33
    go_wp2
    go_ret
    exact ⟨by simp [woB, h1], rfl⟩
  · go_enter Try.func33, Try.ntmps33
    go_wp2
    go_ret
    exact ⟨by simp [woB, h1], rfl⟩
theorem r1_calls (a b : Int) (m : Bool) (h : Int) (w : World) : Calls Try.prog 24 #[.agg #[.int .i64 a, .int .i64 b, .bool m, .int .i64 h]] w fun e w' => e = .returned (.bool (m && !opB a)) ∧ Below w.heap.size w w' := by
  have hu34 := Try.underlying34
  cases hc1 : (m)
  · go_enter Try.func24, Try.ntmps24
    go_wp2_with (go_at_call 19; refine (op_calls a _).mono ?_; rintro e w' ⟨rfl, rfl⟩)
    go_ret
    exact ⟨by simp [*], by repeat (first | (with_reducible first | exact Below.refl _ _ | apply below_alloc | apply pw_below_drewN | apply below_drew1))⟩
  · go_enter Try.func24, Try.ntmps24
    go_wp2_with (go_at_call 19; refine (op_calls a _).mono ?_; rintro e w' ⟨rfl, rfl⟩)
    go_ret
    exact ⟨by simp [*], by repeat (first | (with_reducible first | exact Below.refl _ _ | apply below_alloc | apply pw_below_drewN | apply below_drew1))⟩
theorem r2_calls (a b : Int) (m : Bool) (h : Int) (w : World) : Calls Try.prog 25 #[.agg #[.int .i64 a, .int .i64 b, .bool m, .int .i64 h]] w fun e w' => e = .returned (.bool (a == 11)) ∧ Below w.heap.size w w' := by
  have hu34 := Try.underlying34
  go_enter Try.func25, Try.ntmps25
  go_wp2
  go_ret
  exact ⟨by simp [*], by repeat (first | (with_reducible first | exact Below.refl _ _ | apply below_alloc | apply pw_below_drewN | apply below_drew1))⟩
theorem r3_calls (a b : Int) (m : Bool) (h : Int) (w : World) : Calls Try.prog 26 #[.agg #[.int .i64 a, .int .i64 b, .bool m, .int .i64 h]] w fun e w' => e = .returned (.bool (opB b)) ∧ Below w.heap.size w w' := by
  have hu34 := Try.underlying34
  go_enter Try.func26, Try.ntmps26
  go_wp2_with (go_at_call 19; refine (op_calls b _).mono ?_; rintro e w' ⟨rfl, rfl⟩)
  go_ret
  exact ⟨by simp [*], by repeat (first | (with_reducible first | exact Below.refl _ _ | apply below_alloc | apply pw_below_drewN | apply below_drew1))⟩
theorem r4_calls (a b : Int) (m : Bool) (h : Int) (w : World) : Calls Try.prog 27 #[.agg #[.int .i64 a, .int .i64 b, .bool m, .int .i64 h]] w fun e w' => e = .returned (.bool (h == 9)) ∧ Below w.heap.size w w' := by
  have hu34 := Try.underlying34
  go_enter Try.func27, Try.ntmps27
  go_wp2
  go_ret
  exact ⟨by simp [*], by repeat (first | (with_reducible first | exact Below.refl _ _ | apply below_alloc | apply pw_below_drewN | apply below_drew1))⟩
theorem r5_calls (a b : Int) (m : Bool) (h : Int) (w : World) : Calls Try.prog 28 #[.agg #[.int .i64 a, .int .i64 b, .bool m, .int .i64 h]] w fun e w' => e = .returned (.bool (b == 4 || h == 3)) ∧ Below w.heap.size w w' := by
  have hu34 := Try.underlying34
  cases hc1 : (b == 4)
  · go_enter Try.func28, Try.ntmps28
    go_wp2
    go_ret
    exact ⟨by simp [*], by repeat (first | (with_reducible first | exact Below.refl _ _ | apply below_alloc | apply pw_below_drewN | apply below_drew1))⟩
  · go_enter Try.func28, Try.ntmps28
    go_wp2
    go_ret
    exact ⟨by simp [*], by repeat (first | (with_reducible first | exact Below.refl _ _ | apply below_alloc | apply pw_below_drewN | apply below_drew1))⟩
theorem r6_calls (a b : Int) (m : Bool) (h : Int) (w : World) : Calls Try.prog 29 #[.agg #[.int .i64 a, .int .i64 b, .bool m, .int .i64 h]] w fun e w' => e = .returned (.bool (a == 8)) ∧ Below w.heap.size w w' := by
  have hu34 := Try.underlying34
  go_enter Try.func29, Try.ntmps29
  go_wp2
  go_ret
  exact ⟨by simp [*], by repeat (first | (with_reducible first | exact Below.refl _ _ | apply below_alloc | apply pw_below_drewN | apply below_drew1))⟩
theorem r7_calls (a b : Int) (m : Bool) (h : Int) (w : World) : Calls Try.prog 30 #[.agg #[.int .i64 a, .int .i64 b, .bool m, .int .i64 h]] w fun e w' => e = .returned (.bool (a == 7 || b == 7)) ∧ Below w.heap.size w w' := by
  have hu34 := Try.underlying34
  cases hc1 : (a == 7)
  · go_enter Try.func30, Try.ntmps30
    go_wp2
    go_ret
    exact ⟨by simp [*], by repeat (first | (with_reducible first | exact Below.refl _ _ | apply below_alloc | apply pw_below_drewN | apply below_drew1))⟩
  · go_enter Try.func30, Try.ntmps30
    go_wp2
    go_ret
    exact ⟨by simp [*], by repeat (first | (with_reducible first | exact Below.refl _ _ | apply below_alloc | apply pw_below_drewN | apply below_drew1))⟩
theorem r8_calls (a b : Int) (m : Bool) (h : Int) (w : World) : Calls Try.prog 31 #[.agg #[.int .i64 a, .int .i64 b, .bool m, .int .i64 h]] w fun e w' => e = .returned (.bool (b == 5 || b == 6)) ∧ Below w.heap.size w w' := by
  have hu34 := Try.underlying34
  cases hc1 : (b == 5)
  · go_enter Try.func31, Try.ntmps31
    go_wp2
    go_ret
    exact ⟨by simp [*], by repeat (first | (with_reducible first | exact Below.refl _ _ | apply below_alloc | apply pw_below_drewN | apply below_drew1))⟩
  · go_enter Try.func31, Try.ntmps31
    go_wp2
    go_ret
    exact ⟨by simp [*], by repeat (first | (with_reducible first | exact Below.refl _ _ | apply below_alloc | apply pw_below_drewN | apply below_drew1))⟩
theorem r9_calls (a b : Int) (m : Bool) (h : Int) (w : World) : Calls Try.prog 32 #[.agg #[.int .i64 a, .int .i64 b, .bool m, .int .i64 h]] w fun e w' => e = .returned (.bool (woB a && woB b)) ∧ Below w.heap.size w w' := by
  have hu34 := Try.underlying34
  cases hc1 : (woB a)
  · go_enter Try.func32, Try.ntmps32
    go_wp2_with (first | (go_at_call_of 33 (Value.int .i64 a); refine (wo_calls a _).mono ?_; rintro e w' ⟨rfl, rfl⟩) | (go_at_call 33; refine (wo_calls b _).mono ?_; rintro e w' ⟨rfl, rfl⟩))
    go_ret
    exact ⟨by simp [*], by repeat (first | (with_reducible first | exact Below.refl _ _ | apply below_alloc | apply pw_below_drewN | apply below_drew1))⟩
  · go_enter Try.func32, Try.ntmps32
    go_wp2_with (first | (go_at_call_of 33 (Value.int .i64 a); refine (wo_calls a _).mono ?_; rintro e w' ⟨rfl, rfl⟩) | (go_at_call 33; refine (wo_calls b _).mono ?_; rintro e w' ⟨rfl, rfl⟩))
    go_ret
    exact ⟨by simp [*], by repeat (first | (with_reducible first | exact Below.refl _ _ | apply below_alloc | apply pw_below_drewN | apply below_drew1))⟩
theorem r10_calls (a b : Int) (m : Bool) (h : Int) (w : World) : Calls Try.prog 34 #[.agg #[.int .i64 a, .int .i64 b, .bool m, .int .i64 h]] w fun e w' => e = .returned (.bool (a == 5 && b == 1)) ∧ Below w.heap.size w w' := by
  have hu34 := Try.underlying34
  cases hc1 : (a == 5)
  · go_enter Try.func34, Try.ntmps34
    go_wp2
    go_ret
    exact ⟨by simp [*], by repeat (first | (with_reducible first | exact Below.refl _ _ | apply below_alloc | apply pw_below_drewN | apply below_drew1))⟩
  · go_enter Try.func34, Try.ntmps34
    go_wp2
    go_ret
    exact ⟨by simp [*], by repeat (first | (with_reducible first | exact Below.refl _ _ | apply below_alloc | apply pw_below_drewN | apply below_drew1))⟩
/-- The literal that stands at i, how it decides, and what it asks. -/
def gL (i : Nat) : Nat := match i with | 0 => 24 | 1 => 25 | 2 => 26 | 3 => 27 | 4 => 28 | 5 => 29 | 6 => 30 | 7 => 31 | 8 => 32 | _ => 34
def howL (i : Nat) : Int := match i with | 0 => 0 | 1 => 2 | 2 => 0 | 3 => 1 | 4 => 0 | 5 => 1 | _ => 0
def ruleP (i : Nat) (a b : Int) (m : Bool) (h : Int) : Bool := match i with
  | 0 => m && !opB a
  | 1 => a == 11
  | 2 => opB b
  | 3 => h == 9
  | 4 => b == 4 || h == 3
  | 5 => a == 8
  | 6 => a == 7 || b == 7
  | 7 => b == 5 || b == 6
  | 8 => woB a && woB b
  | _ => a == 5 && b == 1
/-- What the rules say from rule i on, d of them being left. -/
def verd (a b : Int) (m : Bool) (h : Int) : Nat → Nat → Int
  | 0, _ => 1
  | d + 1, i => if ruleP i a b m h = true then howL i else verd a b m h d (i + 1)
theorem howL_ne (i : Nat) : ((howL i) != (-1)) = true := by
  unfold howL
  split <;> decide
theorem rl_calls (i : Nat) (hi : i < 10) (a b : Int) (m : Bool) (h : Int) (w : World) : Calls Try.prog (gL i) #[.agg #[.int .i64 a, .int .i64 b, .bool m, .int .i64 h]] w fun e w' => e = .returned (.bool (ruleP i a b m h)) ∧ Below w.heap.size w w' := by
  match i, hi with
  | 0, _ => exact r1_calls a b m h w
  | 1, _ => exact r2_calls a b m h w
  | 2, _ => exact r3_calls a b m h w
  | 3, _ => exact r4_calls a b m h w
  | 4, _ => exact r5_calls a b m h w
  | 5, _ => exact r6_calls a b m h w
  | 6, _ => exact r7_calls a b m h w
  | 7, _ => exact r8_calls a b m h w
  | 8, _ => exact r9_calls a b m h w
  | 9, _ => exact r10_calls a b m h w
/-- v is what says makes of how and of literal g. -/
def IsSays (w : World) (v : Value) (how : Int) (g : Nat) : Prop := ∃ Bs Bh, v = .func (.func 35) #[] #[.pointer (some ⟨Bs, 0, none⟩), .pointer (some ⟨Bh, 0, none⟩)] ∧ w.heap[Bs]? = some (.cells #[.func (.func g) #[] #[]] 42 (0, 0)) ∧ w.heap[Bh]? = some (.cells #[.int .i64 how] 3 (0, 0))
theorem IsSays.below {w w' : World} {v : Value} {how : Int} {g : Nat} (h : IsSays w v how g) (hb : Below w.heap.size w w') : IsSays w' v how g := by
  obtain ⟨Bs, Bh, e, h1, h2⟩ := h
  exact ⟨Bs, Bh, e, blk_below h1 hb, blk_below h2 hb⟩
theorem says_calls (how : Int) (g : Nat) (w : World) : Calls Try.prog 23 #[.int .i64 how, .func (.func g) #[] #[]] w fun e w' => ∃ v, e = .returned v ∧ IsSays w' v how g ∧ Below w.heap.size w w' := by
  go_enter Try.func23, Try.ntmps23
  go_wp2
  go_ret
  exact ⟨_, rfl, ⟨w.heap.size + 1, w.heap.size, by simp, by (have := blk_new (w.alloc (.cells #[.int .i64 how] 3)) (.cells #[.func (.func g) #[] #[]] 42)); simpa using this, blk_alloc (blk_new w (.cells #[.int .i64 how] 3)) _⟩, by repeat (first | (with_reducible first | exact Below.refl _ _ | apply below_alloc | apply pw_below_drewN | apply below_drew1))⟩
def saidW (p : Bool) (how : Int) : Int := if p = true then how else -1
theorem said_calls (g : Nat) (P : Int → Int → Bool → Int → Bool) (hP : ∀ (a b : Int) (m : Bool) (h : Int) (w : World), Calls Try.prog g #[.agg #[.int .i64 a, .int .i64 b, .bool m, .int .i64 h]] w fun e w' => e = .returned (.bool (P a b m h)) ∧ Below w.heap.size w w')
    (eg : ∀ args w, (callFunc g args).run Try.prog w = .ok (.enter g args) w) (how : Int) (a b : Int) (m : Bool) (h : Int) (Bs Bh : Nat) (w : World) (h1 : w.heap[Bs]? = some (.cells #[.func (.func g) #[] #[]] 42 (0, 0))) (h2 : w.heap[Bh]? = some (.cells #[.int .i64 how] 3 (0, 0))) :
    Calls Try.prog 35 #[.agg #[.int .i64 a, .int .i64 b, .bool m, .int .i64 h], .pointer (some ⟨Bs, 0, none⟩), .pointer (some ⟨Bh, 0, none⟩)] w fun e w' => e = .returned (.int .i64 (saidW (P a b m h) how)) ∧ Below w.heap.size w w' := by
  have hu34 := Try.underlying34
  have H1 := Aside0.mk h1
  have H2 := Aside0.mk h2
  have q1 : (w.alloc (.cells #[.int .i64 a, .int .i64 b, .bool m, .int .i64 h] 34)).cell? ⟨Bs, 0, none⟩ = some (.func (.func g) #[] #[]) := cI (blk_alloc h1 _) 0 rfl
  have n1 : ¬ (w.heap.size = Bs) := by have := blk_lt h1; omega
  have n2 : ¬ (Bs = w.heap.size) := by have := blk_lt h1; omega
  have HP := Aside0.mk (hP a b m h)
  clear h1 h2 hP
  go_enter Try.func35, Try.ntmps35
  go_wp2_with fail
  refine (HP.out _).mono ?_
  rintro e w' ⟨rfl, hb⟩
  have hbw := below_step (below_alloc (Below.refl _ w) _) hb
  have q2 : w'.cell? ⟨Bh, 0, none⟩ = some (.int .i64 how) := cI (blk_below H2.out hbw) 0 rfl
  have HB := Aside0.mk hbw
  clear hbw hb
  cases hp : P a b m h
  · go_wp2
    go_ret
    exact ⟨by rw [hp]; rfl, HB.out⟩
  · go_wp2
    go_ret
    exact ⟨by rw [hp]; rfl, HB.out⟩
set_option maxHeartbeats 2000000 in
set_option maxRecDepth 100000 in
theorem rules_calls (w : World) : Calls Try.prog 18 #[] w fun e w' => ∃ S, e = .returned (.slice (some ⟨S, 0, none⟩) 10 10) ∧ (∀ i, i < 10 → ∃ v, w'.cell? ⟨S, i, none⟩ = some v ∧ IsSays w' v (howL i) (gL i)) ∧ Below w.heap.size w w' := by
  go_enter Try.func18, Try.ntmps18
  go_wp2_with fail
  refine (says_calls (0) 24 _).mono ?_
  rintro e w1 ⟨v1, rfl, s1, b1⟩
  have B1 := Aside0.mk b1
  have S1 := Aside0.mk s1
  clear b1 s1
  go_wp2_with fail
  refine (says_calls (2) 25 _).mono ?_
  rintro e w2 ⟨v2, rfl, s2, b2⟩
  have B2 := Aside0.mk (below_step B1.out b2)
  have N1 := Aside0.mk (S1.out.below b2)
  clear S1
  have S1 := N1
  clear N1
  have S2 := Aside0.mk s2
  clear b2 s2
  go_wp2_with fail
  refine (says_calls (0) 26 _).mono ?_
  rintro e w3 ⟨v3, rfl, s3, b3⟩
  have B3 := Aside0.mk (below_step B2.out b3)
  have N1 := Aside0.mk (S1.out.below b3)
  clear S1
  have S1 := N1
  clear N1
  have N2 := Aside0.mk (S2.out.below b3)
  clear S2
  have S2 := N2
  clear N2
  have S3 := Aside0.mk s3
  clear b3 s3
  go_wp2_with fail
  refine (says_calls (1) 27 _).mono ?_
  rintro e w4 ⟨v4, rfl, s4, b4⟩
  have B4 := Aside0.mk (below_step B3.out b4)
  have N1 := Aside0.mk (S1.out.below b4)
  clear S1
  have S1 := N1
  clear N1
  have N2 := Aside0.mk (S2.out.below b4)
  clear S2
  have S2 := N2
  clear N2
  have N3 := Aside0.mk (S3.out.below b4)
  clear S3
  have S3 := N3
  clear N3
  have S4 := Aside0.mk s4
  clear b4 s4
  go_wp2_with fail
  refine (says_calls (0) 28 _).mono ?_
  rintro e w5 ⟨v5, rfl, s5, b5⟩
  have B5 := Aside0.mk (below_step B4.out b5)
  have N1 := Aside0.mk (S1.out.below b5)
  clear S1
  have S1 := N1
  clear N1
  have N2 := Aside0.mk (S2.out.below b5)
  clear S2
  have S2 := N2
  clear N2
  have N3 := Aside0.mk (S3.out.below b5)
  clear S3
  have S3 := N3
  clear N3
  have N4 := Aside0.mk (S4.out.below b5)
  clear S4
  have S4 := N4
  clear N4
  have S5 := Aside0.mk s5
  clear b5 s5
  go_wp2_with fail
  refine (says_calls (1) 29 _).mono ?_
  rintro e w6 ⟨v6, rfl, s6, b6⟩
  have B6 := Aside0.mk (below_step B5.out b6)
  have N1 := Aside0.mk (S1.out.below b6)
  clear S1
  have S1 := N1
  clear N1
  have N2 := Aside0.mk (S2.out.below b6)
  clear S2
  have S2 := N2
  clear N2
  have N3 := Aside0.mk (S3.out.below b6)
  clear S3
  have S3 := N3
  clear N3
  have N4 := Aside0.mk (S4.out.below b6)
  clear S4
  have S4 := N4
  clear N4
  have N5 := Aside0.mk (S5.out.below b6)
  clear S5
  have S5 := N5
  clear N5
  have S6 := Aside0.mk s6
  clear b6 s6
  go_wp2_with fail
  refine (says_calls (0) 30 _).mono ?_
  rintro e w7 ⟨v7, rfl, s7, b7⟩
  have B7 := Aside0.mk (below_step B6.out b7)
  have N1 := Aside0.mk (S1.out.below b7)
  clear S1
  have S1 := N1
  clear N1
  have N2 := Aside0.mk (S2.out.below b7)
  clear S2
  have S2 := N2
  clear N2
  have N3 := Aside0.mk (S3.out.below b7)
  clear S3
  have S3 := N3
  clear N3
  have N4 := Aside0.mk (S4.out.below b7)
  clear S4
  have S4 := N4
  clear N4
  have N5 := Aside0.mk (S5.out.below b7)
  clear S5
  have S5 := N5
  clear N5
  have N6 := Aside0.mk (S6.out.below b7)
  clear S6
  have S6 := N6
  clear N6
  have S7 := Aside0.mk s7
  clear b7 s7
  go_wp2_with fail
  refine (says_calls (0) 31 _).mono ?_
  rintro e w8 ⟨v8, rfl, s8, b8⟩
  have B8 := Aside0.mk (below_step B7.out b8)
  have N1 := Aside0.mk (S1.out.below b8)
  clear S1
  have S1 := N1
  clear N1
  have N2 := Aside0.mk (S2.out.below b8)
  clear S2
  have S2 := N2
  clear N2
  have N3 := Aside0.mk (S3.out.below b8)
  clear S3
  have S3 := N3
  clear N3
  have N4 := Aside0.mk (S4.out.below b8)
  clear S4
  have S4 := N4
  clear N4
  have N5 := Aside0.mk (S5.out.below b8)
  clear S5
  have S5 := N5
  clear N5
  have N6 := Aside0.mk (S6.out.below b8)
  clear S6
  have S6 := N6
  clear N6
  have N7 := Aside0.mk (S7.out.below b8)
  clear S7
  have S7 := N7
  clear N7
  have S8 := Aside0.mk s8
  clear b8 s8
  go_wp2_with fail
  refine (says_calls (0) 32 _).mono ?_
  rintro e w9 ⟨v9, rfl, s9, b9⟩
  have B9 := Aside0.mk (below_step B8.out b9)
  have N1 := Aside0.mk (S1.out.below b9)
  clear S1
  have S1 := N1
  clear N1
  have N2 := Aside0.mk (S2.out.below b9)
  clear S2
  have S2 := N2
  clear N2
  have N3 := Aside0.mk (S3.out.below b9)
  clear S3
  have S3 := N3
  clear N3
  have N4 := Aside0.mk (S4.out.below b9)
  clear S4
  have S4 := N4
  clear N4
  have N5 := Aside0.mk (S5.out.below b9)
  clear S5
  have S5 := N5
  clear N5
  have N6 := Aside0.mk (S6.out.below b9)
  clear S6
  have S6 := N6
  clear N6
  have N7 := Aside0.mk (S7.out.below b9)
  clear S7
  have S7 := N7
  clear N7
  have N8 := Aside0.mk (S8.out.below b9)
  clear S8
  have S8 := N8
  clear N8
  have S9 := Aside0.mk s9
  clear b9 s9
  go_wp2_with fail
  refine (says_calls (0) 34 _).mono ?_
  rintro e w10 ⟨v10, rfl, s10, b10⟩
  have B10 := Aside0.mk (below_step B9.out b10)
  have N1 := Aside0.mk (S1.out.below b10)
  clear S1
  have S1 := N1
  clear N1
  have N2 := Aside0.mk (S2.out.below b10)
  clear S2
  have S2 := N2
  clear N2
  have N3 := Aside0.mk (S3.out.below b10)
  clear S3
  have S3 := N3
  clear N3
  have N4 := Aside0.mk (S4.out.below b10)
  clear S4
  have S4 := N4
  clear N4
  have N5 := Aside0.mk (S5.out.below b10)
  clear S5
  have S5 := N5
  clear N5
  have N6 := Aside0.mk (S6.out.below b10)
  clear S6
  have S6 := N6
  clear N6
  have N7 := Aside0.mk (S7.out.below b10)
  clear S7
  have S7 := N7
  clear N7
  have N8 := Aside0.mk (S8.out.below b10)
  clear S8
  have S8 := N8
  clear N8
  have N9 := Aside0.mk (S9.out.below b10)
  clear S9
  have S9 := N9
  clear N9
  have S10 := Aside0.mk s10
  clear b10 s10
  obtain ⟨p1, q1, e1, _, _⟩ := S1.out
  subst e1
  obtain ⟨p2, q2, e2, _, _⟩ := S2.out
  subst e2
  obtain ⟨p3, q3, e3, _, _⟩ := S3.out
  subst e3
  obtain ⟨p4, q4, e4, _, _⟩ := S4.out
  subst e4
  obtain ⟨p5, q5, e5, _, _⟩ := S5.out
  subst e5
  obtain ⟨p6, q6, e6, _, _⟩ := S6.out
  subst e6
  obtain ⟨p7, q7, e7, _, _⟩ := S7.out
  subst e7
  obtain ⟨p8, q8, e8, _, _⟩ := S8.out
  subst e8
  obtain ⟨p9, q9, e9, _, _⟩ := S9.out
  subst e9
  obtain ⟨p10, q10, e10, _, _⟩ := S10.out
  subst e10
  go_wp2
  go_ret
  refine ⟨w10.heap.size, rfl, ?_, below_alloc B10.out _⟩
  have hb := below_alloc (Below.refl w10.heap.size w10) (.cells #[.func (.func 35) #[] #[.pointer (some ⟨p1, 0, none⟩), .pointer (some ⟨q1, 0, none⟩)], .func (.func 35) #[] #[.pointer (some ⟨p2, 0, none⟩), .pointer (some ⟨q2, 0, none⟩)], .func (.func 35) #[] #[.pointer (some ⟨p3, 0, none⟩), .pointer (some ⟨q3, 0, none⟩)], .func (.func 35) #[] #[.pointer (some ⟨p4, 0, none⟩), .pointer (some ⟨q4, 0, none⟩)], .func (.func 35) #[] #[.pointer (some ⟨p5, 0, none⟩), .pointer (some ⟨q5, 0, none⟩)], .func (.func 35) #[] #[.pointer (some ⟨p6, 0, none⟩), .pointer (some ⟨q6, 0, none⟩)], .func (.func 35) #[] #[.pointer (some ⟨p7, 0, none⟩), .pointer (some ⟨q7, 0, none⟩)], .func (.func 35) #[] #[.pointer (some ⟨p8, 0, none⟩), .pointer (some ⟨q8, 0, none⟩)], .func (.func 35) #[] #[.pointer (some ⟨p9, 0, none⟩), .pointer (some ⟨q9, 0, none⟩)], .func (.func 35) #[] #[.pointer (some ⟨p10, 0, none⟩), .pointer (some ⟨q10, 0, none⟩)]] 37)
  have hn := blk_new w10 (.cells #[.func (.func 35) #[] #[.pointer (some ⟨p1, 0, none⟩), .pointer (some ⟨q1, 0, none⟩)], .func (.func 35) #[] #[.pointer (some ⟨p2, 0, none⟩), .pointer (some ⟨q2, 0, none⟩)], .func (.func 35) #[] #[.pointer (some ⟨p3, 0, none⟩), .pointer (some ⟨q3, 0, none⟩)], .func (.func 35) #[] #[.pointer (some ⟨p4, 0, none⟩), .pointer (some ⟨q4, 0, none⟩)], .func (.func 35) #[] #[.pointer (some ⟨p5, 0, none⟩), .pointer (some ⟨q5, 0, none⟩)], .func (.func 35) #[] #[.pointer (some ⟨p6, 0, none⟩), .pointer (some ⟨q6, 0, none⟩)], .func (.func 35) #[] #[.pointer (some ⟨p7, 0, none⟩), .pointer (some ⟨q7, 0, none⟩)], .func (.func 35) #[] #[.pointer (some ⟨p8, 0, none⟩), .pointer (some ⟨q8, 0, none⟩)], .func (.func 35) #[] #[.pointer (some ⟨p9, 0, none⟩), .pointer (some ⟨q9, 0, none⟩)], .func (.func 35) #[] #[.pointer (some ⟨p10, 0, none⟩), .pointer (some ⟨q10, 0, none⟩)]] 37)
  intro i hi
  match i, hi with
  | 0, _ => exact ⟨_, cI hn 0 rfl, S1.out.below hb⟩
  | 1, _ => exact ⟨_, cI hn 1 rfl, S2.out.below hb⟩
  | 2, _ => exact ⟨_, cI hn 2 rfl, S3.out.below hb⟩
  | 3, _ => exact ⟨_, cI hn 3 rfl, S4.out.below hb⟩
  | 4, _ => exact ⟨_, cI hn 4 rfl, S5.out.below hb⟩
  | 5, _ => exact ⟨_, cI hn 5 rfl, S6.out.below hb⟩
  | 6, _ => exact ⟨_, cI hn 6 rfl, S7.out.below hb⟩
  | 7, _ => exact ⟨_, cI hn 7 rfl, S8.out.below hb⟩
  | 8, _ => exact ⟨_, cI hn 8 rfl, S9.out.below hb⟩
  | 9, _ => exact ⟨_, cI hn 9 rfl, S10.out.below hb⟩
end Go.Proofs.Ytbcflgiapiclgaa.P
