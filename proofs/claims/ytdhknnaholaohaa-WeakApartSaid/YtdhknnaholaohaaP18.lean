/- Written by wip/tools/gprint.py of this repo over the translation: Lean functions that answer as the Go functions named below do, and the proof of it; the conditions stand in each theorem. -/
import Derived.Test.YtdhknnaholaohaaP0
namespace Go.Proofs.Ytdhknnaholaohaa.P
open Go.RowKit Go.Proofs.YtdhknnaholaohaaW.PrintWords Go.Proofs.YtdhknnaholaohaaW.PrintLast Go.Proofs.YtdhknnaholaohaaW.PrintMore
attribute [local go_sem] max2_int min2_int max_two min_two max_three min_three max_four min_four   -- for this text's walks alone
set_option linter.unusedVariables false
set_option linter.unusedSimpArgs false

/-! ### frisketref10_separates: function 26 -/
def frisketref10_separates.j0 : Nat → List Int → List Int → Int → Int → Bool → Option (Int)
  | 0, _, _, _, _, _ => none
  | k + 1, x0, x1, x2, x7, x22 => if x22 = true then (some x7) else (if 0 ≤ (wrap64 (x2 - 1)) then (if (wrap64 (x2 - 1)) < (x1.length : Int) then (if 0 ≤ (wrap64 (x2 + 1)) then (if (wrap64 (x2 + 1)) < (x0.length : Int) then (if (rd x1 (wrap64 (x2 - 1))) = (rd x0 (wrap64 (x2 + 1))) then (if (rd x1 (wrap64 (x2 - 1))) = 3 then (some (rd x1 (wrap64 (x2 - 1)))) else (if x7 = 7 then (if (rd x1 (wrap64 (x2 - 1))) = 6 then (some (rd x1 (wrap64 (x2 - 1)))) else (some x7)) else (some x7))) else (some x7)) else (none)) else (none)) else (none)) else (none))
def frisketref10_separates.f (k : Nat) (l0 : List Int) (l1 : List Int) (a2 : Int) : Option (Int) := if 0 ≤ a2 then (if a2 < (l0.length : Int) then (if a2 = 0 then (frisketref10_separates.j0 k l0 l1 a2 (rd l0 a2) true) else (frisketref10_separates.j0 k l0 l1 a2 (rd l0 a2) ((wrap64 (a2 + 1)) == (l0.length : Int)))) else (none)) else (none)
theorem frisketref10_separates.mono_l : ∀ k, (∀ y0 y1 y2 y3 y4, LeO (frisketref10_separates.j0 k y0 y1 y2 y3 y4) (frisketref10_separates.j0 (k + 1) y0 y1 y2 y3 y4))
  | 0 => fun _ _ _ _ _ r h => by simp [frisketref10_separates.j0] at h
  | k + 1 => by
    have ih0 := frisketref10_separates.mono_l k
    · intro y0 y1 y2 y3 y4
      unfold frisketref10_separates.j0
      repeat' first
      | (with_reducible exact ih0 _ _ _ _ _)
      | (with_reducible exact LeO.refl _)
      | (with_reducible exact LeO.none _)
      | (with_reducible refine LeO.ite ?_ ?_)
      | (with_reducible refine LeO.bind ?_ (fun _ => ?_))
      | exact ih0 _ _ _ _ _
      | exact LeO.none _
      | refine LeO.ite ?_ ?_
      | refine LeO.bind ?_ (fun _ => ?_)
theorem frisketref10_separates.mono : ∀ a0 a1 a2 k, LeO (frisketref10_separates.f k a0 a1 a2) (frisketref10_separates.f (k + 1) a0 a1 a2) := by
  intro a0 a1 a2 k
  have ih0 := frisketref10_separates.mono_l k
  unfold frisketref10_separates.f
  repeat' first
      | (with_reducible exact ih0 _ _ _ _ _)
      | (with_reducible exact LeO.refl _)
      | (with_reducible exact LeO.none _)
      | (with_reducible refine LeO.ite ?_ ?_)
      | (with_reducible refine LeO.bind ?_ (fun _ => ?_))
      | exact ih0 _ _ _ _ _
      | exact LeO.none _
      | refine LeO.ite ?_ ?_
      | refine LeO.bind ?_ (fun _ => ?_)
set_option maxHeartbeats 8000000 in
set_option maxRecDepth 100000 in
theorem frisketref10_separates.calls (k : Nat) (A0 : Option Addr) (c0 : Nat) (l0 : List Int) (A1 : Option Addr) (c1 : Nat) (l1 : List Int) (a2 : Int) (r : Int) (w : World) (hr0 : Kd.C (Kd.int .i64) w A0 l0.length l0) (hc0 : l0.length ≤ c0) (hr1 : Kd.C (Kd.int .i64) w A1 l1.length l1) (hc1 : l1.length ≤ c1) (h : frisketref10_separates.f k l0 l1 a2 = some r) :
    Calls Try.prog 26 #[.slice A0 l0.length c0, .slice A1 l1.length c1, .int .i64 a2] w fun e w' => e = .returned (.int .i64 r) ∧ Drawn0 w w' := by
  have HR0 := Aside0.mk hr0
  have HC0 := Aside0.mk hc0
  clear hr0 hc0
  have HR1 := Aside0.mk hr1
  have HC1 := Aside0.mk hc1
  clear hr1 hc1
  have H : (if 0 ≤ a2 then (if a2 < (l0.length : Int) then (if a2 = 0 then (frisketref10_separates.j0 k l0 l1 a2 (rd l0 a2) true) else (frisketref10_separates.j0 k l0 l1 a2 (rd l0 a2) ((wrap64 (a2 + 1)) == (l0.length : Int)))) else (none)) else (none)) = some r := h
  clear h
  by_cases c4 : 0 ≤ a2
  · rw [if_pos c4] at H
    have c4b0 : decide (0 ≤ a2) = true := decide_eq_true c4
    clear c4
    by_cases c5 : a2 < (l0.length : Int)
    · rw [if_pos c5] at H
      have c5b0 : decide (a2 < (l0.length : Int)) = true := decide_eq_true c5
      clear c5
      have HC6 := Aside0.mk H
      clear H
      have p216 : 0 ≤ (a2 : Int) := of_decide_eq_true (by first | (with_reducible assumption) | assumption)
      have q216 : a2 < (l0.length : Int) := of_decide_eq_true (by first | (with_reducible assumption) | assumption)
      obtain ⟨ad216, e216, hx216_0⟩ := Kd.at_int HR0.out a2 p216 q216
      cases e216
      replace p216 := eq_true p216
      replace q216 := eq_true q216
      go_enter Try.func26, Try.ntmps26
      go_upto_region 2 with (fail)
      go_cut [22] (fun v22 wc => ∃ (kq : Nat) (x22_5 : Bool), v22 = .bool x22_5 ∧ Aside0 (frisketref10_separates.j0 kq l0 l1 a2 (rd l0 a2) x22_5 = some r) ∧ Aside0 (kq ≤ k) ∧ Drawn0 w wc)
      case first =>
        have H := HC6.out
        clear HC6
        by_cases c7 : a2 = 0
        · rw [if_pos c7] at H
          have c7b0 : (a2 == 0) = true := beq_iff_eq.mpr c7
          have c7b1 : (a2 != 0) = false := bne_eq_false_iff_eq.mpr c7
          clear c7
          (first | rw [c7b0] | (simp only [i64_w, i32_w]; rw [c7b0]) | skip)
          have H' := Aside0.mk H
          clear H
          go_wp2
          go_meet
          case rel => exact ⟨_, (true), (by first | rfl | (simp; done) | (simp [*]; done)), H', ⟨by first | omega | exact Nat.le_refl _⟩, by repeat (first | exact Drawn0.refl _ | apply Drawn0.step)⟩
        · rw [if_neg c7] at H
          have c7b0 : (a2 == 0) = false := beq_eq_false_iff_ne.mpr c7
          have c7b1 : (a2 != 0) = true := bne_iff_ne.mpr c7
          (first | rw [c7b0] | (simp only [i64_w, i32_w]; rw [c7b0]) | skip)
          have H' := Aside0.mk H
          clear H
          go_wp2
          go_meet
          case rel => exact ⟨_, (((wrap64 (a2 + 1)) == (l0.length : Int))), (by first | rfl | (simp; done) | (simp [*]; done)), H', ⟨by first | omega | exact Nat.le_refl _⟩, by repeat (first | exact Drawn0.refl _ | apply Drawn0.step)⟩
      case rest =>
        clear HC6
        try clear c1
        try clear c2
        try clear p2
        try clear q2
        try clear hx2
        try clear c4
        try clear c4b0
        try clear c5
        try clear c5b0
        try clear p6
        try clear c7
        try clear c7b0
        try clear c7b1
        try clear hx216_0
        try clear p216
        try clear q216
        obtain ⟨kq, x22_5, rfl, HA, HJ5, ⟨mc5, rfl⟩⟩ := hcut
        cases kq with
        | zero => exact absurd HA.out (by simp [frisketref10_separates.j0])
        | succ kj5 =>
          have H := HA.out
          clear HA
          simp only [frisketref10_separates.j0] at H
          by_cases c8 : x22_5 = true
          · subst c8
            have H1 : (some (rd l0 a2)) = some r := by rw [if_pos rfl] at H; exact H
            clear H
            have H := H1
            clear H1
            obtain rfl := Option.some.inj H
            go_wp2
            go_ret
            exact ⟨by first | rfl | (simp; done) | (simp [*]; done), by repeat (first | exact Drawn0.refl _ | apply Drawn0.step)⟩
          · replace c8 := Bool.eq_false_iff.mpr c8
            subst c8
            have H1 : (if 0 ≤ (wrap64 (a2 - 1)) then (if (wrap64 (a2 - 1)) < (l1.length : Int) then (if 0 ≤ (wrap64 (a2 + 1)) then (if (wrap64 (a2 + 1)) < (l0.length : Int) then (if (rd l1 (wrap64 (a2 - 1))) = (rd l0 (wrap64 (a2 + 1))) then (if (rd l1 (wrap64 (a2 - 1))) = 3 then (some (rd l1 (wrap64 (a2 - 1)))) else (if (rd l0 a2) = 7 then (if (rd l1 (wrap64 (a2 - 1))) = 6 then (some (rd l1 (wrap64 (a2 - 1)))) else (some (rd l0 a2))) else (some (rd l0 a2)))) else (some (rd l0 a2))) else (none)) else (none)) else (none)) else (none)) = some r := by rw [if_neg (show ¬ (false = true) by decide)] at H; exact H
            clear H
            have H := H1
            clear H1
            obtain ⟨ji9, hji9⟩ : ∃ j_ : Int, (wrap64 (a2 - 1)) = j_ := ⟨_, rfl⟩
            replace H : (if 0 ≤ (ji9) then (if (ji9) < (l1.length : Int) then (if 0 ≤ (wrap64 (a2 + 1)) then (if (wrap64 (a2 + 1)) < (l0.length : Int) then (if (rd l1 (ji9)) = (rd l0 (wrap64 (a2 + 1))) then (if (rd l1 (ji9)) = 3 then (some (rd l1 (ji9))) else (if (rd l0 a2) = 7 then (if (rd l1 (ji9)) = 6 then (some (rd l1 (ji9))) else (some (rd l0 a2))) else (some (rd l0 a2)))) else (some (rd l0 a2))) else (none)) else (none)) else (none)) else (none)) = some r := by first | (rw [hji9] at H; exact H) | (simp only [hji9] at H ⊢; exact H)
            have hji9w : (IntKind.i64.wrap (a2 - 1)) = ji9 := (i64_w _).trans hji9
            by_cases c10 : 0 ≤ (ji9)
            · rw [if_pos c10] at H
              have c10b0 : decide (0 ≤ (ji9)) = true := decide_eq_true c10
              clear c10
              by_cases c11 : (ji9) < (l1.length : Int)
              · rw [if_pos c11] at H
                have c11b0 : decide ((ji9) < (l1.length : Int)) = true := decide_eq_true c11
                clear c11
                obtain ⟨ji12, hji12⟩ : ∃ j_ : Int, (wrap64 (a2 + 1)) = j_ := ⟨_, rfl⟩
                replace H : (if 0 ≤ (ji12) then (if (ji12) < (l0.length : Int) then (if (rd l1 (ji9)) = (rd l0 (ji12)) then (if (rd l1 (ji9)) = 3 then (some (rd l1 (ji9))) else (if (rd l0 a2) = 7 then (if (rd l1 (ji9)) = 6 then (some (rd l1 (ji9))) else (some (rd l0 a2))) else (some (rd l0 a2)))) else (some (rd l0 a2))) else (none)) else (none)) = some r := by first | (rw [hji12] at H; exact H) | (simp only [hji12] at H ⊢; exact H)
                have hji12w : (IntKind.i64.wrap (a2 + 1)) = ji12 := (i64_w _).trans hji12
                by_cases c13 : 0 ≤ (ji12)
                · rw [if_pos c13] at H
                  have c13b0 : decide (0 ≤ (ji12)) = true := decide_eq_true c13
                  clear c13
                  by_cases c14 : (ji12) < (l0.length : Int)
                  · rw [if_pos c14] at H
                    have c14b0 : decide ((ji12) < (l0.length : Int)) = true := decide_eq_true c14
                    clear c14
                    by_cases c15 : (rd l1 (ji9)) = (rd l0 (ji12))
                    · rw [if_pos c15] at H
                      have c15b0 : ((rd l1 (ji9)) == (rd l0 (ji12))) = true := beq_iff_eq.mpr c15
                      have c15b1 : ((rd l1 (ji9)) != (rd l0 (ji12))) = false := bne_eq_false_iff_eq.mpr c15
                      clear c15
                      by_cases c16 : (rd l1 (ji9)) = 3
                      · rw [if_pos c16] at H
                        have c16b0 : ((rd l1 (ji9)) == 3) = true := beq_iff_eq.mpr c16
                        have c16b1 : ((rd l1 (ji9)) != 3) = false := bne_eq_false_iff_eq.mpr c16
                        clear c16
                        obtain rfl := Option.some.inj H
                        have p217 : 0 ≤ ((ji9) : Int) := of_decide_eq_true (by first | (with_reducible assumption) | assumption)
                        have q217 : (ji9) < (l1.length : Int) := of_decide_eq_true (by first | (with_reducible assumption) | assumption)
                        obtain ⟨ad217, e217, hx217_0⟩ := Kd.at_int HR1.out (ji9) p217 q217
                        cases e217
                        replace p217 := eq_true p217
                        replace q217 := eq_true q217
                        have p218 : 0 ≤ ((ji12) : Int) := of_decide_eq_true (by first | (with_reducible assumption) | assumption)
                        have q218 : (ji12) < (l0.length : Int) := of_decide_eq_true (by first | (with_reducible assumption) | assumption)
                        obtain ⟨ad218, e218, hx218_0⟩ := Kd.at_int HR0.out (ji12) p218 q218
                        obtain rfl : ad216 = ad218 := (by injection e218)
                        replace p218 := eq_true p218
                        replace q218 := eq_true q218
                        go_wp2
                        go_ret
                        exact ⟨by first | rfl | (simp; done) | (simp only [← hji9, ← hji12] <;> (first | rfl | simp)) | (simp [*]; done), by repeat (first | exact Drawn0.refl _ | apply Drawn0.step)⟩
                      · rw [if_neg c16] at H
                        have c16b0 : ((rd l1 (ji9)) == 3) = false := beq_eq_false_iff_ne.mpr c16
                        have c16b1 : ((rd l1 (ji9)) != 3) = true := bne_iff_ne.mpr c16
                        by_cases c17 : (rd l0 a2) = 7
                        · rw [if_pos c17] at H
                          have c17b0 : ((rd l0 a2) == 7) = true := beq_iff_eq.mpr c17
                          have c17b1 : ((rd l0 a2) != 7) = false := bne_eq_false_iff_eq.mpr c17
                          clear c17
                          by_cases c18 : (rd l1 (ji9)) = 6
                          · rw [if_pos c18] at H
                            have c18b0 : ((rd l1 (ji9)) == 6) = true := beq_iff_eq.mpr c18
                            have c18b1 : ((rd l1 (ji9)) != 6) = false := bne_eq_false_iff_eq.mpr c18
                            clear c18
                            obtain rfl := Option.some.inj H
                            have p217 : 0 ≤ ((ji9) : Int) := of_decide_eq_true (by first | (with_reducible assumption) | assumption)
                            have q217 : (ji9) < (l1.length : Int) := of_decide_eq_true (by first | (with_reducible assumption) | assumption)
                            obtain ⟨ad217, e217, hx217_0⟩ := Kd.at_int HR1.out (ji9) p217 q217
                            cases e217
                            replace p217 := eq_true p217
                            replace q217 := eq_true q217
                            have p218 : 0 ≤ ((ji12) : Int) := of_decide_eq_true (by first | (with_reducible assumption) | assumption)
                            have q218 : (ji12) < (l0.length : Int) := of_decide_eq_true (by first | (with_reducible assumption) | assumption)
                            obtain ⟨ad218, e218, hx218_0⟩ := Kd.at_int HR0.out (ji12) p218 q218
                            obtain rfl : ad216 = ad218 := (by injection e218)
                            replace p218 := eq_true p218
                            replace q218 := eq_true q218
                            go_wp2
                            go_ret
                            exact ⟨by first | rfl | (simp; done) | (simp only [← hji9, ← hji12] <;> (first | rfl | simp)) | (simp [*]; done), by repeat (first | exact Drawn0.refl _ | apply Drawn0.step)⟩
                          · rw [if_neg c18] at H
                            have c18b0 : ((rd l1 (ji9)) == 6) = false := beq_eq_false_iff_ne.mpr c18
                            have c18b1 : ((rd l1 (ji9)) != 6) = true := bne_iff_ne.mpr c18
                            obtain rfl := Option.some.inj H
                            have p217 : 0 ≤ ((ji9) : Int) := of_decide_eq_true (by first | (with_reducible assumption) | assumption)
                            have q217 : (ji9) < (l1.length : Int) := of_decide_eq_true (by first | (with_reducible assumption) | assumption)
                            obtain ⟨ad217, e217, hx217_0⟩ := Kd.at_int HR1.out (ji9) p217 q217
                            cases e217
                            replace p217 := eq_true p217
                            replace q217 := eq_true q217
                            have p218 : 0 ≤ ((ji12) : Int) := of_decide_eq_true (by first | (with_reducible assumption) | assumption)
                            have q218 : (ji12) < (l0.length : Int) := of_decide_eq_true (by first | (with_reducible assumption) | assumption)
                            obtain ⟨ad218, e218, hx218_0⟩ := Kd.at_int HR0.out (ji12) p218 q218
                            obtain rfl : ad216 = ad218 := (by injection e218)
                            replace p218 := eq_true p218
                            replace q218 := eq_true q218
                            go_wp2
                            go_ret
                            exact ⟨by first | rfl | (simp; done) | (simp only [← hji9, ← hji12] <;> (first | rfl | simp)) | (simp [*]; done), by repeat (first | exact Drawn0.refl _ | apply Drawn0.step)⟩
                        · rw [if_neg c17] at H
                          have c17b0 : ((rd l0 a2) == 7) = false := beq_eq_false_iff_ne.mpr c17
                          have c17b1 : ((rd l0 a2) != 7) = true := bne_iff_ne.mpr c17
                          obtain rfl := Option.some.inj H
                          have p217 : 0 ≤ ((ji9) : Int) := of_decide_eq_true (by first | (with_reducible assumption) | assumption)
                          have q217 : (ji9) < (l1.length : Int) := of_decide_eq_true (by first | (with_reducible assumption) | assumption)
                          obtain ⟨ad217, e217, hx217_0⟩ := Kd.at_int HR1.out (ji9) p217 q217
                          cases e217
                          replace p217 := eq_true p217
                          replace q217 := eq_true q217
                          have p218 : 0 ≤ ((ji12) : Int) := of_decide_eq_true (by first | (with_reducible assumption) | assumption)
                          have q218 : (ji12) < (l0.length : Int) := of_decide_eq_true (by first | (with_reducible assumption) | assumption)
                          obtain ⟨ad218, e218, hx218_0⟩ := Kd.at_int HR0.out (ji12) p218 q218
                          obtain rfl : ad216 = ad218 := (by injection e218)
                          replace p218 := eq_true p218
                          replace q218 := eq_true q218
                          go_wp2
                          go_ret
                          exact ⟨by first | rfl | (simp; done) | (simp only [← hji9, ← hji12] <;> (first | rfl | simp)) | (simp [*]; done), by repeat (first | exact Drawn0.refl _ | apply Drawn0.step)⟩
                    · rw [if_neg c15] at H
                      have c15b0 : ((rd l1 (ji9)) == (rd l0 (ji12))) = false := beq_eq_false_iff_ne.mpr c15
                      have c15b1 : ((rd l1 (ji9)) != (rd l0 (ji12))) = true := bne_iff_ne.mpr c15
                      obtain rfl := Option.some.inj H
                      have p217 : 0 ≤ ((ji9) : Int) := of_decide_eq_true (by first | (with_reducible assumption) | assumption)
                      have q217 : (ji9) < (l1.length : Int) := of_decide_eq_true (by first | (with_reducible assumption) | assumption)
                      obtain ⟨ad217, e217, hx217_0⟩ := Kd.at_int HR1.out (ji9) p217 q217
                      cases e217
                      replace p217 := eq_true p217
                      replace q217 := eq_true q217
                      have p218 : 0 ≤ ((ji12) : Int) := of_decide_eq_true (by first | (with_reducible assumption) | assumption)
                      have q218 : (ji12) < (l0.length : Int) := of_decide_eq_true (by first | (with_reducible assumption) | assumption)
                      obtain ⟨ad218, e218, hx218_0⟩ := Kd.at_int HR0.out (ji12) p218 q218
                      obtain rfl : ad216 = ad218 := (by injection e218)
                      replace p218 := eq_true p218
                      replace q218 := eq_true q218
                      go_wp2
                      go_ret
                      exact ⟨by first | rfl | (simp; done) | (simp only [← hji9, ← hji12] <;> (first | rfl | simp)) | (simp [*]; done), by repeat (first | exact Drawn0.refl _ | apply Drawn0.step)⟩
                  · rw [if_neg c14] at H
                    exact absurd H (by simp)
                · rw [if_neg c13] at H
                  exact absurd H (by simp)
              · rw [if_neg c11] at H
                exact absurd H (by simp)
            · rw [if_neg c10] at H
              exact absurd H (by simp)
    · rw [if_neg c5] at H
      exact absurd H (by simp)
  · rw [if_neg c4] at H
    exact absurd H (by simp)

end Go.Proofs.Ytdhknnaholaohaa.P
