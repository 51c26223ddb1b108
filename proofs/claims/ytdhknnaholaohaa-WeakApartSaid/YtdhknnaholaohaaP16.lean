/- Written by wip/tools/gprint.py of this repo over the translation: Lean functions that answer as the Go functions named below do, and the proof of it; the conditions stand in each theorem. -/
import Derived.Test.YtdhknnaholaohaaP0
namespace Go.Proofs.Ytdhknnaholaohaa.P
open Go.RowKit Go.Proofs.YtdhknnaholaohaaW.PrintWords Go.Proofs.YtdhknnaholaohaaW.PrintLast Go.Proofs.YtdhknnaholaohaaW.PrintMore
attribute [local go_sem] max2_int min2_int max_two min_two max_three min_three max_four min_four   -- for this text's walks alone
set_option linter.unusedVariables false
set_option linter.unusedSimpArgs false

/-! ### frisketref10_isolates: function 24 -/
def frisketref10_isolates.f (a0 : Int) : Option (Bool) := if a0 = 19 then (some true) else (if a0 = 20 then (some true) else (if a0 = 21 then (some true) else (some (a0 == 22))))
set_option maxHeartbeats 8000000 in
set_option maxRecDepth 100000 in
theorem frisketref10_isolates.calls (a0 : Int) (r : Bool) (w : World) (h : frisketref10_isolates.f a0 = some r) :
    Calls Try.prog 24 #[.int .i64 a0] w fun e w' => e = .returned (.bool r) ∧ Drawn0 w w' := by
  have H : (if a0 = 19 then (some true) else (if a0 = 20 then (some true) else (if a0 = 21 then (some true) else (some (a0 == 22))))) = some r := h
  clear h
  by_cases c2 : a0 = 19
  · rw [if_pos c2] at H
    have c2b0 : (a0 == 19) = true := beq_iff_eq.mpr c2
    have c2b1 : (a0 != 19) = false := bne_eq_false_iff_eq.mpr c2
    clear c2
    obtain rfl := Option.some.inj H
    go_enter Try.func24, Try.ntmps24
    go_wp2
    go_ret
    exact ⟨by first | rfl | (simp; done) | (simp [*]; done), by repeat (first | exact Drawn0.refl _ | apply Drawn0.step)⟩
  · rw [if_neg c2] at H
    have c2b0 : (a0 == 19) = false := beq_eq_false_iff_ne.mpr c2
    have c2b1 : (a0 != 19) = true := bne_iff_ne.mpr c2
    by_cases c3 : a0 = 20
    · rw [if_pos c3] at H
      have c3b0 : (a0 == 20) = true := beq_iff_eq.mpr c3
      have c3b1 : (a0 != 20) = false := bne_eq_false_iff_eq.mpr c3
      clear c3
      obtain rfl := Option.some.inj H
      go_enter Try.func24, Try.ntmps24
      go_wp2
      go_ret
      exact ⟨by first | rfl | (simp; done) | (simp [*]; done), by repeat (first | exact Drawn0.refl _ | apply Drawn0.step)⟩
    · rw [if_neg c3] at H
      have c3b0 : (a0 == 20) = false := beq_eq_false_iff_ne.mpr c3
      have c3b1 : (a0 != 20) = true := bne_iff_ne.mpr c3
      by_cases c4 : a0 = 21
      · rw [if_pos c4] at H
        have c4b0 : (a0 == 21) = true := beq_iff_eq.mpr c4
        have c4b1 : (a0 != 21) = false := bne_eq_false_iff_eq.mpr c4
        clear c4
        obtain rfl := Option.some.inj H
        go_enter Try.func24, Try.ntmps24
        go_wp2
        go_ret
        exact ⟨by first | rfl | (simp; done) | (simp [*]; done), by repeat (first | exact Drawn0.refl _ | apply Drawn0.step)⟩
      · rw [if_neg c4] at H
        have c4b0 : (a0 == 21) = false := beq_eq_false_iff_ne.mpr c4
        have c4b1 : (a0 != 21) = true := bne_iff_ne.mpr c4
        obtain rfl := Option.some.inj H
        go_enter Try.func24, Try.ntmps24
        go_wp2
        go_ret
        exact ⟨by first | rfl | (simp; done) | (simp [*]; done), by repeat (first | exact Drawn0.refl _ | apply Drawn0.step)⟩

end Go.Proofs.Ytdhknnaholaohaa.P
