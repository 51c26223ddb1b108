/- neutral.Settle's contract. -/
import Derived.Test.YtplindcfnlonbaaHSetOdd
import Derived.Test.YtplindcfnlonbaaHSetEven
namespace Go.Proofs.Ytplindcfnlonbaa.P
open Go.RowKit Go.Shelf Go.Proofs.YtplindcfnlonbaaW.PrintWords Go.Proofs.YtplindcfnlonbaaW.PrintLast Go.Proofs.YtplindcfnlonbaaW.PrintMore
set_option linter.unusedVariables false
set_option linter.unusedSimpArgs false
attribute [local go_sem] Oper.semAt_some

set_option maxHeartbeats 4000000 in
set_option maxRecDepth 100000 in
theorem settle_bad (v : Value) (lv fi la : Int) (w : World) (h : ¬ (0 ≤ lv ∧ lv ≤ 125 ∧ (fi = 0 ∨ fi = 1) ∧ (la = 0 ∨ la = 1))) (hv : v.oneCell' = true) :
    Calls Try.prog 8 #[v, .agg #[.int .i64 lv, .int .i64 fi, .int .i64 la]] w fun e w' => e = .returned (.tuple #[.slice none 0 0, .int .i64 1]) ∧ Below w.heap.size w w' := by
  have hu30 := Try.underlying30
  have hu25 := Try.underlying25
  by_cases c1 : lv < 0
  · replace c1 := eq_true c1
    clear h
    go_enter Try.func8, Try.ntmps8
    go_wp2
    go_ret2
    exact ⟨rfl, by repeat (first | exact Below.refl _ _ | apply below_alloc | apply pw_below_drewN)⟩
  · by_cases c2 : 125 < lv
    · replace c1 := eq_false c1
      replace c2 := eq_true c2
      clear h
      go_enter Try.func8, Try.ntmps8
      go_wp2
      go_ret2
      exact ⟨rfl, by repeat (first | exact Below.refl _ _ | apply below_alloc | apply pw_below_drewN)⟩
    · by_cases c3 : fi = 0 ∨ fi = 1
      · have HS1 := Aside0.mk (strong_of c3)
        have HS2 := Aside0.mk (strong_not (c := la) (fun g => h ⟨by omega, by omega, c3, g⟩))
        replace c1 := eq_false c1
        replace c2 := eq_false c2
        clear h c3
        go_enter Try.func8, Try.ntmps8
        go_wp2_with (first | (go_at_call 16; refine (neutral_strong.calls _ true _ HS1.out).mono ?_; rintro e w1 ⟨rfl, ⟨⟨m1, rfl⟩⟩⟩; clear HS1) | (go_at_call 16; refine (neutral_strong.calls _ false _ HS2.out).mono ?_; rintro e w1 ⟨rfl, ⟨⟨m2, rfl⟩⟩⟩; clear HS2))
        go_ret2
        exact ⟨rfl, by repeat (first | exact Below.refl _ _ | apply below_alloc | apply pw_below_drewN)⟩
      · have HS1 := Aside0.mk (strong_not c3)
        replace c1 := eq_false c1
        replace c2 := eq_false c2
        clear h c3
        go_enter Try.func8, Try.ntmps8
        go_wp2_with (go_at_call 16; refine (neutral_strong.calls _ false _ HS1.out).mono ?_; rintro e w1 ⟨rfl, ⟨⟨m1, rfl⟩⟩⟩; clear HS1)
        go_ret2
        exact ⟨rfl, by repeat (first | exact Below.refl _ _ | apply below_alloc | apply pw_below_drewN)⟩
theorem neutral_Settle.calls (A0 : Option Addr) (c0 : Nat) (l0 : List Int) (a1 a2 a3 : Int) (r1 : List Int) (r2 : Int) (w : World) (hr0 : Kd.C (Kd.int .i64) w A0 l0.length l0) (hc0 : l0.length ≤ c0) (h : neutral_Settle.f l0 a1 a2 a3 = some (r1, r2)) :
    Calls Try.prog 8 #[.slice A0 l0.length c0, .agg #[.int .i64 a1, .int .i64 a2, .int .i64 a3]] w fun e w' => ∃ v0_ : Value, e = .returned (.tuple #[v0_, .int .i64 r2]) ∧ Kd.R (Kd.int .i64) 23 w' w.heap.size (fun _ => True) v0_ r1 ∧ Below w.heap.size w w' := by
  unfold neutral_Settle.f at h
  by_cases c : 0 ≤ a1 ∧ a1 ≤ 125 ∧ (a2 = 0 ∨ a2 = 1) ∧ (a3 = 0 ∨ a3 = 1)
  · rw [if_pos c] at h
    by_cases hl : l0.length < 17592186044416
    case neg => rw [if_neg hl] at h; cases h
    rw [if_pos hl] at h
    by_cases ho : Int.tmod a1 2 = 1
    · rw [if_pos ho] at h
      cases h
      exact settle_odd A0 c0 l0 a1 a2 a3 w hr0 hc0 hl c.1 c.2.1 c.2.2.1 c.2.2.2 (beq_iff_eq.2 ho)
    · rw [if_neg ho] at h
      cases h
      exact settle_even A0 c0 l0 a1 a2 a3 w hr0 hc0 hl c.1 c.2.1 c.2.2.1 c.2.2.2 (beq_eq_false_iff_ne.2 ho)
  · rw [if_neg c] at h
    cases h
    refine (settle_bad (.slice A0 l0.length c0) a1 a2 a3 w c rfl).mono ?_
    rintro e w1 ⟨rfl, hb⟩
    exact ⟨_, rfl, Kd.R_nil _ _ _ _ _, hb⟩
end Go.Proofs.Ytplindcfnlonbaa.P
