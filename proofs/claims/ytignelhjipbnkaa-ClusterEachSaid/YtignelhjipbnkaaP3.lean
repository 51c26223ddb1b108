/- Written by wip/tools/gprint.py of this repo over the translation: Lean functions that answer as the Go functions named below do, and the proof of it; the conditions stand in each theorem. -/
import Derived.Test.YtignelhjipbnkaaP0
namespace Go.Proofs.Ytignelhjipbnkaa.P
open Go.RowKit Go.Proofs.YtignelhjipbnkaaW.PrintWords Go.Proofs.YtignelhjipbnkaaW.PrintLast Go.Proofs.YtignelhjipbnkaaW.PrintMore
attribute [local go_sem] max2_int min2_int max_two min_two max_three min_three max_four min_four   -- for this text's walks alone
set_option linter.unusedVariables false
set_option linter.unusedSimpArgs false

/-! ### cluster_syllable: function 30 -/
def cluster_syllable.j0 : Nat → Int → Int → Bool → Option (Bool)
  | 0, _, _, _ => none
  | k + 1, x1, x5, x22 => if x22 = true then (if x1 = 10 then (some true) else (some (x1 == 11))) else (if x5 = 13 then (some (x1 == 11)) else (if x5 = 11 then (some (x1 == 11)) else (some false)))
def cluster_syllable.f (k : Nat) (a0 : Int) (a1 : Int) : Option (Bool) := if a0 = 9 then (if a1 = 9 then (some true) else (if a1 = 10 then (some true) else (if a1 = 12 then (some true) else (some (a1 == 13))))) else (if a0 = 12 then (cluster_syllable.j0 k a1 a0 (a0 == 12)) else (cluster_syllable.j0 k a1 a0 (a0 == 10)))
theorem cluster_syllable.mono_l : ∀ k, (∀ y0 y1 y2, LeO (cluster_syllable.j0 k y0 y1 y2) (cluster_syllable.j0 (k + 1) y0 y1 y2))
  | 0 => fun _ _ _ r h => by simp [cluster_syllable.j0] at h
  | k + 1 => by
    have ih0 := cluster_syllable.mono_l k
    · intro y0 y1 y2
      unfold cluster_syllable.j0
      repeat' first
      | (with_reducible exact ih0 _ _ _)
      | (with_reducible exact LeO.refl _)
      | (with_reducible exact LeO.none _)
      | (with_reducible refine LeO.ite ?_ ?_)
      | (with_reducible refine LeO.bind ?_ (fun _ => ?_))
      | exact ih0 _ _ _
      | exact LeO.none _
      | refine LeO.ite ?_ ?_
      | refine LeO.bind ?_ (fun _ => ?_)
theorem cluster_syllable.mono : ∀ a0 a1 k, LeO (cluster_syllable.f k a0 a1) (cluster_syllable.f (k + 1) a0 a1) := by
  intro a0 a1 k
  have ih0 := cluster_syllable.mono_l k
  unfold cluster_syllable.f
  repeat' first
      | (with_reducible exact ih0 _ _ _)
      | (with_reducible exact LeO.refl _)
      | (with_reducible exact LeO.none _)
      | (with_reducible refine LeO.ite ?_ ?_)
      | (with_reducible refine LeO.bind ?_ (fun _ => ?_))
      | exact ih0 _ _ _
      | exact LeO.none _
      | refine LeO.ite ?_ ?_
      | refine LeO.bind ?_ (fun _ => ?_)
set_option maxHeartbeats 8000000 in
set_option maxRecDepth 100000 in
theorem cluster_syllable.calls (k : Nat) (a0 : Int) (a1 : Int) (r : Bool) (w : World) (h : cluster_syllable.f k a0 a1 = some r) :
    Calls Try.prog 30 #[.int .i64 a0, .int .i64 a1] w fun e w' => e = .returned (.bool r) ∧ Drawn0 w w' := by
  have H : (if a0 = 9 then (if a1 = 9 then (some true) else (if a1 = 10 then (some true) else (if a1 = 12 then (some true) else (some (a1 == 13))))) else (if a0 = 12 then (cluster_syllable.j0 k a1 a0 (a0 == 12)) else (cluster_syllable.j0 k a1 a0 (a0 == 10)))) = some r := h
  clear h
  by_cases c3 : a0 = 9
  · rw [if_pos c3] at H
    have c3b0 : (a0 == 9) = true := beq_iff_eq.mpr c3
    have c3b1 : (a0 != 9) = false := bne_eq_false_iff_eq.mpr c3
    clear c3
    by_cases c4 : a1 = 9
    · rw [if_pos c4] at H
      have c4b0 : (a1 == 9) = true := beq_iff_eq.mpr c4
      have c4b1 : (a1 != 9) = false := bne_eq_false_iff_eq.mpr c4
      clear c4
      obtain rfl := Option.some.inj H
      go_enter Try.func30, Try.ntmps30
      go_wp2
      go_ret
      exact ⟨by first | rfl | (simp; done) | (simp [*]; done), by repeat (first | exact Drawn0.refl _ | apply Drawn0.step)⟩
    · rw [if_neg c4] at H
      have c4b0 : (a1 == 9) = false := beq_eq_false_iff_ne.mpr c4
      have c4b1 : (a1 != 9) = true := bne_iff_ne.mpr c4
      by_cases c5 : a1 = 10
      · rw [if_pos c5] at H
        have c5b0 : (a1 == 10) = true := beq_iff_eq.mpr c5
        have c5b1 : (a1 != 10) = false := bne_eq_false_iff_eq.mpr c5
        clear c5
        obtain rfl := Option.some.inj H
        go_enter Try.func30, Try.ntmps30
        go_wp2
        go_ret
        exact ⟨by first | rfl | (simp; done) | (simp [*]; done), by repeat (first | exact Drawn0.refl _ | apply Drawn0.step)⟩
      · rw [if_neg c5] at H
        have c5b0 : (a1 == 10) = false := beq_eq_false_iff_ne.mpr c5
        have c5b1 : (a1 != 10) = true := bne_iff_ne.mpr c5
        by_cases c6 : a1 = 12
        · rw [if_pos c6] at H
          have c6b0 : (a1 == 12) = true := beq_iff_eq.mpr c6
          have c6b1 : (a1 != 12) = false := bne_eq_false_iff_eq.mpr c6
          clear c6
          obtain rfl := Option.some.inj H
          go_enter Try.func30, Try.ntmps30
          go_wp2
          go_ret
          exact ⟨by first | rfl | (simp; done) | (simp [*]; done), by repeat (first | exact Drawn0.refl _ | apply Drawn0.step)⟩
        · rw [if_neg c6] at H
          have c6b0 : (a1 == 12) = false := beq_eq_false_iff_ne.mpr c6
          have c6b1 : (a1 != 12) = true := bne_iff_ne.mpr c6
          obtain rfl := Option.some.inj H
          go_enter Try.func30, Try.ntmps30
          go_wp2
          go_ret
          exact ⟨by first | rfl | (simp; done) | (simp [*]; done), by repeat (first | exact Drawn0.refl _ | apply Drawn0.step)⟩
  · rw [if_neg c3] at H
    have c3b0 : (a0 == 9) = false := beq_eq_false_iff_ne.mpr c3
    have c3b1 : (a0 != 9) = true := bne_iff_ne.mpr c3
    have HC7 := Aside0.mk H
    clear H
    go_enter Try.func30, Try.ntmps30
    go_upto_if 22 with (fail)
    go_cut [22] (fun v22 wc => ∃ (kq : Nat) (x22_6 : Bool), v22 = .bool x22_6 ∧ Aside0 (cluster_syllable.j0 kq a1 a0 x22_6 = some r) ∧ Aside0 (kq ≤ k) ∧ Drawn0 w wc)
    case first =>
      have H := HC7.out
      clear HC7
      by_cases c8 : a0 = 12
      · rw [if_pos c8] at H
        have c8b0 : (a0 == 12) = true := beq_iff_eq.mpr c8
        have c8b1 : (a0 != 12) = false := bne_eq_false_iff_eq.mpr c8
        clear c8
        (first | rw [c8b0] | (simp only [i64_w, i32_w]; rw [c8b0]) | skip)
        have H' := Aside0.mk H
        clear H
        go_wp2
        go_meet
        case rel => exact ⟨_, ((a0 == 12)), (by first | rfl | (simp; done) | (simp [*]; done)), H', ⟨by first | omega | exact Nat.le_refl _⟩, by repeat (first | exact Drawn0.refl _ | apply Drawn0.step)⟩
      · rw [if_neg c8] at H
        have c8b0 : (a0 == 12) = false := beq_eq_false_iff_ne.mpr c8
        have c8b1 : (a0 != 12) = true := bne_iff_ne.mpr c8
        (first | rw [c8b0] | (simp only [i64_w, i32_w]; rw [c8b0]) | skip)
        have H' := Aside0.mk H
        clear H
        go_wp2
        go_meet
        case rel => exact ⟨_, ((a0 == 10)), (by first | rfl | (simp; done) | (simp [*]; done)), H', ⟨by first | omega | exact Nat.le_refl _⟩, by repeat (first | exact Drawn0.refl _ | apply Drawn0.step)⟩
    case rest =>
      clear HC7
      try clear p2
      try clear c3
      try clear c3b0
      try clear c3b1
      try clear c4
      try clear c4b0
      try clear c4b1
      try clear c5
      try clear c5b0
      try clear c5b1
      try clear c6
      try clear c6b0
      try clear c6b1
      try clear c8
      try clear c8b0
      try clear c8b1
      obtain ⟨kq, x22_6, rfl, HA, HJ6, ⟨mc6, rfl⟩⟩ := hcut
      cases kq with
      | zero => exact absurd HA.out (by simp [cluster_syllable.j0])
      | succ kj6 =>
        have H := HA.out
        clear HA
        simp only [cluster_syllable.j0] at H
        by_cases c9 : x22_6 = true
        · subst c9
          have H1 : (if a1 = 10 then (some true) else (some (a1 == 11))) = some r := by rw [if_pos rfl] at H; exact H
          clear H
          have H := H1
          clear H1
          by_cases c10 : a1 = 10
          · rw [if_pos c10] at H
            have c10b0 : (a1 == 10) = true := beq_iff_eq.mpr c10
            have c10b1 : (a1 != 10) = false := bne_eq_false_iff_eq.mpr c10
            clear c10
            obtain rfl := Option.some.inj H
            go_wp2
            go_ret
            exact ⟨by first | rfl | (simp; done) | (simp [*]; done), by repeat (first | exact Drawn0.refl _ | apply Drawn0.step)⟩
          · rw [if_neg c10] at H
            have c10b0 : (a1 == 10) = false := beq_eq_false_iff_ne.mpr c10
            have c10b1 : (a1 != 10) = true := bne_iff_ne.mpr c10
            obtain rfl := Option.some.inj H
            go_wp2
            go_ret
            exact ⟨by first | rfl | (simp; done) | (simp [*]; done), by repeat (first | exact Drawn0.refl _ | apply Drawn0.step)⟩
        · replace c9 := Bool.eq_false_iff.mpr c9
          subst c9
          have H1 : (if a0 = 13 then (some (a1 == 11)) else (if a0 = 11 then (some (a1 == 11)) else (some false))) = some r := by rw [if_neg (show ¬ (false = true) by decide)] at H; exact H
          clear H
          have H := H1
          clear H1
          by_cases c11 : a0 = 13
          · rw [if_pos c11] at H
            have c11b0 : (a0 == 13) = true := beq_iff_eq.mpr c11
            have c11b1 : (a0 != 13) = false := bne_eq_false_iff_eq.mpr c11
            clear c11
            obtain rfl := Option.some.inj H
            go_wp2
            go_ret
            exact ⟨by first | rfl | (simp; done) | (simp [*]; done), by repeat (first | exact Drawn0.refl _ | apply Drawn0.step)⟩
          · rw [if_neg c11] at H
            have c11b0 : (a0 == 13) = false := beq_eq_false_iff_ne.mpr c11
            have c11b1 : (a0 != 13) = true := bne_iff_ne.mpr c11
            by_cases c12 : a0 = 11
            · rw [if_pos c12] at H
              have c12b0 : (a0 == 11) = true := beq_iff_eq.mpr c12
              have c12b1 : (a0 != 11) = false := bne_eq_false_iff_eq.mpr c12
              clear c12
              obtain rfl := Option.some.inj H
              go_wp2
              go_ret
              exact ⟨by first | rfl | (simp; done) | (simp [*]; done), by repeat (first | exact Drawn0.refl _ | apply Drawn0.step)⟩
            · rw [if_neg c12] at H
              have c12b0 : (a0 == 11) = false := beq_eq_false_iff_ne.mpr c12
              have c12b1 : (a0 != 11) = true := bne_iff_ne.mpr c12
              obtain rfl := Option.some.inj H
              go_wp2
              go_ret
              exact ⟨by first | rfl | (simp; done) | (simp [*]; done), by repeat (first | exact Drawn0.refl _ | apply Drawn0.step)⟩

end Go.Proofs.Ytignelhjipbnkaa.P
