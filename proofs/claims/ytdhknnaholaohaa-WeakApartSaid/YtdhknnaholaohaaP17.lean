/- Written by wip/tools/gprint.py of this repo over the translation: Lean functions that answer as the Go functions named below do, and the proof of it; the conditions stand in each theorem. -/
import Derived.Test.YtdhknnaholaohaaP0
namespace Go.Proofs.Ytdhknnaholaohaa.P
open Go.RowKit Go.Proofs.YtdhknnaholaohaaW.PrintWords Go.Proofs.YtdhknnaholaohaaW.PrintLast Go.Proofs.YtdhknnaholaohaaW.PrintMore
attribute [local go_sem] max2_int min2_int max_two min_two max_three min_three max_four min_four   -- for this text's walks alone
set_option linter.unusedVariables false
set_option linter.unusedSimpArgs false

/-! ### frisketref10_strong: function 25 -/
def frisketref10_strong.l0 : Nat → List Int → Int → Int → Option (Int)
  | 0, _, _, _ => none
  | k + 1, x0, x2, x7 => if x7 ≥ 0 then (if 0 ≤ x7 then (if x7 < (x0.length : Int) then (if (rd x0 x7) = 0 then (some (rd x0 x7)) else (if (rd x0 x7) = 1 then (some (rd x0 x7)) else (if (rd x0 x7) = 2 then (some (rd x0 x7)) else (frisketref10_strong.l0 k x0 x2 (wrap64 (x7 - 1)))))) else (none)) else (none)) else (some x2)
def frisketref10_strong.f (k : Nat) (l0 : List Int) (a1 : Int) (a2 : Int) : Option (Int) := frisketref10_strong.l0 k l0 a2 (wrap64 (a1 - 1))
theorem frisketref10_strong.mono_l : ∀ k, (∀ y0 y1 y2, LeO (frisketref10_strong.l0 k y0 y1 y2) (frisketref10_strong.l0 (k + 1) y0 y1 y2))
  | 0 => fun _ _ _ r h => by simp [frisketref10_strong.l0] at h
  | k + 1 => by
    have ih0 := frisketref10_strong.mono_l k
    · intro y0 y1 y2
      unfold frisketref10_strong.l0
      repeat' first
      | (with_reducible exact ih0 _ _ _)
      | (with_reducible exact LeO.refl _)
      | (with_reducible exact LeO.none _)
      | (with_reducible refine LeO.ite ?_ ?_)
      | (with_reducible refine LeO.bind ?_ (fun _ => ?_))
      | exact ih0 _ _ _
      | exact LeO.none _
      | refine LeO.ite ?_ ?_
      | refine LeO.bind ?_ (fun _ => ?_)
theorem frisketref10_strong.mono : ∀ a0 a1 a2 k, LeO (frisketref10_strong.f k a0 a1 a2) (frisketref10_strong.f (k + 1) a0 a1 a2) := by
  intro a0 a1 a2 k
  have ih0 := frisketref10_strong.mono_l k
  unfold frisketref10_strong.f
  repeat' first
      | (with_reducible exact ih0 _ _ _)
      | (with_reducible exact LeO.refl _)
      | (with_reducible exact LeO.none _)
      | (with_reducible refine LeO.ite ?_ ?_)
      | (with_reducible refine LeO.bind ?_ (fun _ => ?_))
      | exact ih0 _ _ _
      | exact LeO.none _
      | refine LeO.ite ?_ ?_
      | refine LeO.bind ?_ (fun _ => ?_)
set_option maxHeartbeats 8000000 in
set_option maxRecDepth 100000 in
theorem frisketref10_strong.calls (k : Nat) (A0 : Option Addr) (c0 : Nat) (l0 : List Int) (a1 : Int) (a2 : Int) (r : Int) (w : World) (hr0 : Kd.C (Kd.int .i64) w A0 l0.length l0) (hc0 : l0.length ≤ c0) (h : frisketref10_strong.f k l0 a1 a2 = some r) :
    Calls Try.prog 25 #[.slice A0 l0.length c0, .int .i64 a1, .int .i64 a2] w fun e w' => e = .returned (.int .i64 r) ∧ Drawn0 w w' := by
  have HR0 := Aside0.mk hr0
  have HC0 := Aside0.mk hc0
  clear hr0 hc0
  have H : (frisketref10_strong.l0 k l0 a2 (wrap64 (a1 - 1))) = some r := h
  clear h
  have H' := Aside0.mk H
  clear H
  go_enter Try.func25, Try.ntmps25
  go_wp2
  go_loopg [7] k (fun kq v7 w' => ∃ (x7_1 : Int), v7 = .int .i64 x7_1 ∧ Aside0 (frisketref10_strong.l0 kq l0 a2 x7_1 = some r) ∧ Aside0 (kq ≤ k) ∧ Drawn0 w w')
  case atStart => exact ⟨(wrap64 (a1 - 1)), (by first | rfl | (simp; done) | (simp [*]; done)), H', ⟨Nat.le_refl _⟩, by repeat (first | exact Drawn0.refl _ | apply Drawn0.step)⟩
  case round =>
    clear H'
    try clear c2
    try clear p2
    obtain ⟨x7_1, rfl, HA, HK1, ⟨m1, rfl⟩⟩ := hrel
    cases gk with
    | zero => exact absurd HA.out (by simp [frisketref10_strong.l0])
    | succ k1 =>
      have H := HA.out
      clear HA
      simp only [frisketref10_strong.l0] at H
      by_cases c4 : x7_1 ≥ 0
      · rw [if_pos c4] at H
        have c4b0 : decide (0 ≤ x7_1) = true := decide_eq_true c4
        clear c4
        by_cases c5 : 0 ≤ x7_1
        · rw [if_pos c5] at H
          have c5b0 : decide (0 ≤ x7_1) = true := decide_eq_true c5
          clear c5
          by_cases c6 : x7_1 < (l0.length : Int)
          · rw [if_pos c6] at H
            have c6b0 : decide (x7_1 < (l0.length : Int)) = true := decide_eq_true c6
            clear c6
            by_cases c7 : (rd l0 x7_1) = 0
            · rw [if_pos c7] at H
              have c7b0 : ((rd l0 x7_1) == 0) = true := beq_iff_eq.mpr c7
              have c7b1 : ((rd l0 x7_1) != 0) = false := bne_eq_false_iff_eq.mpr c7
              clear c7
              obtain rfl := Option.some.inj H
              have p210 : 0 ≤ (x7_1 : Int) := of_decide_eq_true (by first | (with_reducible assumption) | assumption)
              have q210 : x7_1 < (l0.length : Int) := of_decide_eq_true (by first | (with_reducible assumption) | assumption)
              obtain ⟨ad210, e210, hx210_0⟩ := Kd.at_int HR0.out x7_1 p210 q210
              cases e210
              replace p210 := eq_true p210
              replace q210 := eq_true q210
              have p211 : 0 ≤ (x7_1 : Int) := of_decide_eq_true (by first | (with_reducible assumption) | assumption)
              have q211 : x7_1 < (l0.length : Int) := of_decide_eq_true (by first | (with_reducible assumption) | assumption)
              obtain ⟨ad211, e211, hx211_0⟩ := Kd.at_int HR0.out x7_1 p211 q211
              obtain rfl : ad210 = ad211 := (by injection e211)
              replace p211 := eq_true p211
              replace q211 := eq_true q211
              go_wp2
              go_ret
              exact ⟨by first | rfl | (simp; done) | (simp [*]; done), by repeat (first | exact Drawn0.refl _ | apply Drawn0.step)⟩
            · rw [if_neg c7] at H
              have c7b0 : ((rd l0 x7_1) == 0) = false := beq_eq_false_iff_ne.mpr c7
              have c7b1 : ((rd l0 x7_1) != 0) = true := bne_iff_ne.mpr c7
              by_cases c8 : (rd l0 x7_1) = 1
              · rw [if_pos c8] at H
                have c8b0 : ((rd l0 x7_1) == 1) = true := beq_iff_eq.mpr c8
                have c8b1 : ((rd l0 x7_1) != 1) = false := bne_eq_false_iff_eq.mpr c8
                clear c8
                obtain rfl := Option.some.inj H
                have p210 : 0 ≤ (x7_1 : Int) := of_decide_eq_true (by first | (with_reducible assumption) | assumption)
                have q210 : x7_1 < (l0.length : Int) := of_decide_eq_true (by first | (with_reducible assumption) | assumption)
                obtain ⟨ad210, e210, hx210_0⟩ := Kd.at_int HR0.out x7_1 p210 q210
                cases e210
                replace p210 := eq_true p210
                replace q210 := eq_true q210
                have p212 : 0 ≤ (x7_1 : Int) := of_decide_eq_true (by first | (with_reducible assumption) | assumption)
                have q212 : x7_1 < (l0.length : Int) := of_decide_eq_true (by first | (with_reducible assumption) | assumption)
                obtain ⟨ad212, e212, hx212_0⟩ := Kd.at_int HR0.out x7_1 p212 q212
                obtain rfl : ad210 = ad212 := (by injection e212)
                replace p212 := eq_true p212
                replace q212 := eq_true q212
                have p213 : 0 ≤ (x7_1 : Int) := of_decide_eq_true (by first | (with_reducible assumption) | assumption)
                have q213 : x7_1 < (l0.length : Int) := of_decide_eq_true (by first | (with_reducible assumption) | assumption)
                obtain ⟨ad213, e213, hx213_0⟩ := Kd.at_int HR0.out x7_1 p213 q213
                obtain rfl : ad210 = ad213 := (by injection e213)
                replace p213 := eq_true p213
                replace q213 := eq_true q213
                go_wp2
                go_ret
                exact ⟨by first | rfl | (simp; done) | (simp [*]; done), by repeat (first | exact Drawn0.refl _ | apply Drawn0.step)⟩
              · rw [if_neg c8] at H
                have c8b0 : ((rd l0 x7_1) == 1) = false := beq_eq_false_iff_ne.mpr c8
                have c8b1 : ((rd l0 x7_1) != 1) = true := bne_iff_ne.mpr c8
                by_cases c9 : (rd l0 x7_1) = 2
                · rw [if_pos c9] at H
                  have c9b0 : ((rd l0 x7_1) == 2) = true := beq_iff_eq.mpr c9
                  have c9b1 : ((rd l0 x7_1) != 2) = false := bne_eq_false_iff_eq.mpr c9
                  clear c9
                  obtain rfl := Option.some.inj H
                  have p210 : 0 ≤ (x7_1 : Int) := of_decide_eq_true (by first | (with_reducible assumption) | assumption)
                  have q210 : x7_1 < (l0.length : Int) := of_decide_eq_true (by first | (with_reducible assumption) | assumption)
                  obtain ⟨ad210, e210, hx210_0⟩ := Kd.at_int HR0.out x7_1 p210 q210
                  cases e210
                  replace p210 := eq_true p210
                  replace q210 := eq_true q210
                  have p212 : 0 ≤ (x7_1 : Int) := of_decide_eq_true (by first | (with_reducible assumption) | assumption)
                  have q212 : x7_1 < (l0.length : Int) := of_decide_eq_true (by first | (with_reducible assumption) | assumption)
                  obtain ⟨ad212, e212, hx212_0⟩ := Kd.at_int HR0.out x7_1 p212 q212
                  obtain rfl : ad210 = ad212 := (by injection e212)
                  replace p212 := eq_true p212
                  replace q212 := eq_true q212
                  have p214 : 0 ≤ (x7_1 : Int) := of_decide_eq_true (by first | (with_reducible assumption) | assumption)
                  have q214 : x7_1 < (l0.length : Int) := of_decide_eq_true (by first | (with_reducible assumption) | assumption)
                  obtain ⟨ad214, e214, hx214_0⟩ := Kd.at_int HR0.out x7_1 p214 q214
                  obtain rfl : ad210 = ad214 := (by injection e214)
                  replace p214 := eq_true p214
                  replace q214 := eq_true q214
                  have p215 : 0 ≤ (x7_1 : Int) := of_decide_eq_true (by first | (with_reducible assumption) | assumption)
                  have q215 : x7_1 < (l0.length : Int) := of_decide_eq_true (by first | (with_reducible assumption) | assumption)
                  obtain ⟨ad215, e215, hx215_0⟩ := Kd.at_int HR0.out x7_1 p215 q215
                  obtain rfl : ad210 = ad215 := (by injection e215)
                  replace p215 := eq_true p215
                  replace q215 := eq_true q215
                  go_wp2
                  go_ret
                  exact ⟨by first | rfl | (simp; done) | (simp [*]; done), by repeat (first | exact Drawn0.refl _ | apply Drawn0.step)⟩
                · rw [if_neg c9] at H
                  have c9b0 : ((rd l0 x7_1) == 2) = false := beq_eq_false_iff_ne.mpr c9
                  have c9b1 : ((rd l0 x7_1) != 2) = true := bne_iff_ne.mpr c9
                  have H' := Aside0.mk H
                  clear H
                  have p210 : 0 ≤ (x7_1 : Int) := of_decide_eq_true (by first | (with_reducible assumption) | assumption)
                  have q210 : x7_1 < (l0.length : Int) := of_decide_eq_true (by first | (with_reducible assumption) | assumption)
                  obtain ⟨ad210, e210, hx210_0⟩ := Kd.at_int HR0.out x7_1 p210 q210
                  cases e210
                  replace p210 := eq_true p210
                  replace q210 := eq_true q210
                  have p212 : 0 ≤ (x7_1 : Int) := of_decide_eq_true (by first | (with_reducible assumption) | assumption)
                  have q212 : x7_1 < (l0.length : Int) := of_decide_eq_true (by first | (with_reducible assumption) | assumption)
                  obtain ⟨ad212, e212, hx212_0⟩ := Kd.at_int HR0.out x7_1 p212 q212
                  obtain rfl : ad210 = ad212 := (by injection e212)
                  replace p212 := eq_true p212
                  replace q212 := eq_true q212
                  have p214 : 0 ≤ (x7_1 : Int) := of_decide_eq_true (by first | (with_reducible assumption) | assumption)
                  have q214 : x7_1 < (l0.length : Int) := of_decide_eq_true (by first | (with_reducible assumption) | assumption)
                  obtain ⟨ad214, e214, hx214_0⟩ := Kd.at_int HR0.out x7_1 p214 q214
                  obtain rfl : ad210 = ad214 := (by injection e214)
                  replace p214 := eq_true p214
                  replace q214 := eq_true q214
                  go_wp2
                  go_roundg k1
                  case measure => have := HK1.out; omega
                  case rel => exact ⟨(wrap64 (x7_1 - 1)), (by first | rfl | (simp; done) | (simp [*]; done)), H', ⟨by have := HK1.out; omega⟩, by repeat (first | exact Drawn0.refl _ | apply Drawn0.step)⟩
          · rw [if_neg c6] at H
            exact absurd H (by simp)
        · rw [if_neg c5] at H
          exact absurd H (by simp)
      · rw [if_neg c4] at H
        have c4b0 : decide (0 ≤ x7_1) = false := decide_eq_false c4
        clear c4
        obtain rfl := Option.some.inj H
        go_wp2
        go_ret
        exact ⟨by first | rfl | (simp; done) | (simp [*]; done), by repeat (first | exact Drawn0.refl _ | apply Drawn0.step)⟩

end Go.Proofs.Ytdhknnaholaohaa.P
