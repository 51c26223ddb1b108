/- Written by wip/tools/gprint.py of this repo over the translation: Lean functions that answer as the Go functions named below do, and the proof of it; the conditions stand in each theorem. -/
import Derived.Test.YtdhknnaholaohaaP0
import Derived.Test.YtdhknnaholaohaaP16
import Derived.Test.YtdhknnaholaohaaP17
import Derived.Test.YtdhknnaholaohaaP18
import Derived.Test.YtdhknnaholaohaaP19
namespace Go.Proofs.Ytdhknnaholaohaa.P
open Go.RowKit Go.Proofs.YtdhknnaholaohaaW.PrintWords Go.Proofs.YtdhknnaholaohaaW.PrintLast Go.Proofs.YtdhknnaholaohaaW.PrintMore
attribute [local go_sem] max2_int min2_int max_two min_two max_three min_three max_four min_four   -- for this text's walks alone
set_option linter.unusedVariables false
set_option linter.unusedSimpArgs false

/-! ### frisketref10_at: function 16 -/
mutual
def frisketref10_at.j0 : Nat → Int → List Int → List Int → Int → Int → Int → Bool → Option (Int)
  | 0, _, _, _, _, _, _, _ => none
  | k + 1, x0, x1, x2, x3, x4, x11, x17 => if x17 = true then (if x3 = 0 then (some x4) else (if 0 ≤ (wrap64 (x3 - 1)) then (if (wrap64 (x3 - 1)) < (x2.length : Int) then ((frisketref10_isolates.f (rd x2 (wrap64 (x3 - 1)))).bind fun t227 => (if t227 = true then (some 13) else (some (rd x2 (wrap64 (x3 - 1)))))) else (none)) else (none))) else (if x0 = 2 then (if x11 = 3 then ((frisketref10_strong.f k x1 x3 x4).bind fun t229 => (frisketref10_at.j1 k x0 x1 x2 x3 x4 x11 (t229 == 2))) else (frisketref10_at.j1 k x0 x1 x2 x3 x4 x11 false)) else (frisketref10_at.j1 k x0 x1 x2 x3 x4 x11 false))
def frisketref10_at.j1 : Nat → Int → List Int → List Int → Int → Int → Int → Bool → Option (Int)
  | 0, _, _, _, _, _, _, _ => none
  | k + 1, x0, x1, x2, x3, x4, x11, x39 => if x39 = true then (some 6) else (if x0 = 3 then (frisketref10_at.j2 k x0 x1 x2 x3 x4 x11 (x11 == 2)) else (frisketref10_at.j2 k x0 x1 x2 x3 x4 x11 false))
def frisketref10_at.j2 : Nat → Int → List Int → List Int → Int → Int → Int → Bool → Option (Int)
  | 0, _, _, _, _, _, _, _ => none
  | k + 1, x0, x1, x2, x3, x4, x11, x53 => if x53 = true then (some 1) else (if x0 = 4 then (if x11 = 4 then (frisketref10_at.j3 k x0 x1 x2 x3 x4 x11 true) else (frisketref10_at.j3 k x0 x1 x2 x3 x4 x11 (x11 == 7))) else (frisketref10_at.j3 k x0 x1 x2 x3 x4 x11 false))
def frisketref10_at.j3 : Nat → Int → List Int → List Int → Int → Int → Int → Bool → Option (Int)
  | 0, _, _, _, _, _, _, _ => none
  | k + 1, x0, x1, x2, x3, x4, x11, x60 => if x60 = true then ((frisketref10_separates.f k x1 x2 x3).bind fun t230 => (some t230)) else (if x0 = 5 then (if x11 = 5 then ((frisketref10_beside.f k x1 x3).bind fun t231 => (frisketref10_at.j4 k x0 x1 x3 x4 x11 t231)) else (frisketref10_at.j4 k x0 x1 x3 x4 x11 false)) else (frisketref10_at.j4 k x0 x1 x3 x4 x11 false))
def frisketref10_at.j4 : Nat → Int → List Int → Int → Int → Int → Bool → Option (Int)
  | 0, _, _, _, _, _, _ => none
  | k + 1, x0, x1, x3, x4, x11, x75 => if x75 = true then (some 3) else (if x0 = 6 then (if x11 = 4 then (frisketref10_at.j5 k x0 x1 x3 x4 x11 true) else (if x11 = 5 then (frisketref10_at.j5 k x0 x1 x3 x4 x11 true) else (frisketref10_at.j5 k x0 x1 x3 x4 x11 (x11 == 7)))) else (frisketref10_at.j5 k x0 x1 x3 x4 x11 false))
def frisketref10_at.j5 : Nat → Int → List Int → Int → Int → Int → Bool → Option (Int)
  | 0, _, _, _, _, _, _ => none
  | k + 1, x0, x1, x3, x4, x11, x87 => if x87 = true then (some 13) else (if x0 = 7 then (if x11 = 3 then ((frisketref10_strong.f k x1 x3 x4).bind fun t232 => (if t232 = 0 then (some 0) else (some x11))) else (some x11)) else (some x11))
end
def frisketref10_at.f (k : Nat) (a0 : Int) (l1 : List Int) (l2 : List Int) (a3 : Int) (a4 : Int) : Option (Int) := if 0 ≤ a3 then (if a3 < (l1.length : Int) then (if a0 = 1 then (frisketref10_at.j0 k a0 l1 l2 a3 a4 (rd l1 a3) ((rd l1 a3) == 8)) else (frisketref10_at.j0 k a0 l1 l2 a3 a4 (rd l1 a3) false)) else (none)) else (none)
theorem frisketref10_at.mono_l : ∀ k, (∀ y0 y1 y2 y3 y4 y5 y6, LeO (frisketref10_at.j0 k y0 y1 y2 y3 y4 y5 y6) (frisketref10_at.j0 (k + 1) y0 y1 y2 y3 y4 y5 y6)) ∧ (∀ y0 y1 y2 y3 y4 y5 y6, LeO (frisketref10_at.j1 k y0 y1 y2 y3 y4 y5 y6) (frisketref10_at.j1 (k + 1) y0 y1 y2 y3 y4 y5 y6)) ∧ (∀ y0 y1 y2 y3 y4 y5 y6, LeO (frisketref10_at.j2 k y0 y1 y2 y3 y4 y5 y6) (frisketref10_at.j2 (k + 1) y0 y1 y2 y3 y4 y5 y6)) ∧ (∀ y0 y1 y2 y3 y4 y5 y6, LeO (frisketref10_at.j3 k y0 y1 y2 y3 y4 y5 y6) (frisketref10_at.j3 (k + 1) y0 y1 y2 y3 y4 y5 y6)) ∧ (∀ y0 y1 y2 y3 y4 y5, LeO (frisketref10_at.j4 k y0 y1 y2 y3 y4 y5) (frisketref10_at.j4 (k + 1) y0 y1 y2 y3 y4 y5)) ∧ (∀ y0 y1 y2 y3 y4 y5, LeO (frisketref10_at.j5 k y0 y1 y2 y3 y4 y5) (frisketref10_at.j5 (k + 1) y0 y1 y2 y3 y4 y5))
  | 0 => ⟨fun _ _ _ _ _ _ _ r h => by simp [frisketref10_at.j0] at h, fun _ _ _ _ _ _ _ r h => by simp [frisketref10_at.j1] at h, fun _ _ _ _ _ _ _ r h => by simp [frisketref10_at.j2] at h, fun _ _ _ _ _ _ _ r h => by simp [frisketref10_at.j3] at h, fun _ _ _ _ _ _ r h => by simp [frisketref10_at.j4] at h, fun _ _ _ _ _ _ r h => by simp [frisketref10_at.j5] at h⟩
  | k + 1 => by
    obtain ⟨ih0, ih1, ih2, ih3, ih4, ih5⟩ := frisketref10_at.mono_l k
    refine ⟨?_, ?_, ?_, ?_, ?_, ?_⟩
    · intro y0 y1 y2 y3 y4 y5 y6
      unfold frisketref10_at.j0
      repeat' first
      | (with_reducible exact ih0 _ _ _ _ _ _ _)
      | (with_reducible exact ih1 _ _ _ _ _ _ _)
      | (with_reducible exact ih2 _ _ _ _ _ _ _)
      | (with_reducible exact ih3 _ _ _ _ _ _ _)
      | (with_reducible exact ih4 _ _ _ _ _ _)
      | (with_reducible exact ih5 _ _ _ _ _ _)
      | (with_reducible exact frisketref10_beside.mono _ _ _)
      | (with_reducible exact frisketref10_separates.mono _ _ _ _)
      | (with_reducible exact frisketref10_strong.mono _ _ _ _)
      | (with_reducible exact LeO.refl _)
      | (with_reducible exact LeO.none _)
      | (with_reducible refine LeO.ite ?_ ?_)
      | (with_reducible refine LeO.bind ?_ (fun _ => ?_))
      | exact ih0 _ _ _ _ _ _ _
      | exact ih1 _ _ _ _ _ _ _
      | exact ih2 _ _ _ _ _ _ _
      | exact ih3 _ _ _ _ _ _ _
      | exact ih4 _ _ _ _ _ _
      | exact ih5 _ _ _ _ _ _
      | exact frisketref10_beside.mono _ _ _
      | exact frisketref10_separates.mono _ _ _ _
      | exact frisketref10_strong.mono _ _ _ _
      | exact LeO.none _
      | refine LeO.ite ?_ ?_
      | refine LeO.bind ?_ (fun _ => ?_)
    · intro y0 y1 y2 y3 y4 y5 y6
      unfold frisketref10_at.j1
      repeat' first
      | (with_reducible exact ih0 _ _ _ _ _ _ _)
      | (with_reducible exact ih1 _ _ _ _ _ _ _)
      | (with_reducible exact ih2 _ _ _ _ _ _ _)
      | (with_reducible exact ih3 _ _ _ _ _ _ _)
      | (with_reducible exact ih4 _ _ _ _ _ _)
      | (with_reducible exact ih5 _ _ _ _ _ _)
      | (with_reducible exact frisketref10_beside.mono _ _ _)
      | (with_reducible exact frisketref10_separates.mono _ _ _ _)
      | (with_reducible exact frisketref10_strong.mono _ _ _ _)
      | (with_reducible exact LeO.refl _)
      | (with_reducible exact LeO.none _)
      | (with_reducible refine LeO.ite ?_ ?_)
      | (with_reducible refine LeO.bind ?_ (fun _ => ?_))
      | exact ih0 _ _ _ _ _ _ _
      | exact ih1 _ _ _ _ _ _ _
      | exact ih2 _ _ _ _ _ _ _
      | exact ih3 _ _ _ _ _ _ _
      | exact ih4 _ _ _ _ _ _
      | exact ih5 _ _ _ _ _ _
      | exact frisketref10_beside.mono _ _ _
      | exact frisketref10_separates.mono _ _ _ _
      | exact frisketref10_strong.mono _ _ _ _
      | exact LeO.none _
      | refine LeO.ite ?_ ?_
      | refine LeO.bind ?_ (fun _ => ?_)
    · intro y0 y1 y2 y3 y4 y5 y6
      unfold frisketref10_at.j2
      repeat' first
      | (with_reducible exact ih0 _ _ _ _ _ _ _)
      | (with_reducible exact ih1 _ _ _ _ _ _ _)
      | (with_reducible exact ih2 _ _ _ _ _ _ _)
      | (with_reducible exact ih3 _ _ _ _ _ _ _)
      | (with_reducible exact ih4 _ _ _ _ _ _)
      | (with_reducible exact ih5 _ _ _ _ _ _)
      | (with_reducible exact frisketref10_beside.mono _ _ _)
      | (with_reducible exact frisketref10_separates.mono _ _ _ _)
      | (with_reducible exact frisketref10_strong.mono _ _ _ _)
      | (with_reducible exact LeO.refl _)
      | (with_reducible exact LeO.none _)
      | (with_reducible refine LeO.ite ?_ ?_)
      | (with_reducible refine LeO.bind ?_ (fun _ => ?_))
      | exact ih0 _ _ _ _ _ _ _
      | exact ih1 _ _ _ _ _ _ _
      | exact ih2 _ _ _ _ _ _ _
      | exact ih3 _ _ _ _ _ _ _
      | exact ih4 _ _ _ _ _ _
      | exact ih5 _ _ _ _ _ _
      | exact frisketref10_beside.mono _ _ _
      | exact frisketref10_separates.mono _ _ _ _
      | exact frisketref10_strong.mono _ _ _ _
      | exact LeO.none _
      | refine LeO.ite ?_ ?_
      | refine LeO.bind ?_ (fun _ => ?_)
    · intro y0 y1 y2 y3 y4 y5 y6
      unfold frisketref10_at.j3
      repeat' first
      | (with_reducible exact ih0 _ _ _ _ _ _ _)
      | (with_reducible exact ih1 _ _ _ _ _ _ _)
      | (with_reducible exact ih2 _ _ _ _ _ _ _)
      | (with_reducible exact ih3 _ _ _ _ _ _ _)
      | (with_reducible exact ih4 _ _ _ _ _ _)
      | (with_reducible exact ih5 _ _ _ _ _ _)
      | (with_reducible exact frisketref10_beside.mono _ _ _)
      | (with_reducible exact frisketref10_separates.mono _ _ _ _)
      | (with_reducible exact frisketref10_strong.mono _ _ _ _)
      | (with_reducible exact LeO.refl _)
      | (with_reducible exact LeO.none _)
      | (with_reducible refine LeO.ite ?_ ?_)
      | (with_reducible refine LeO.bind ?_ (fun _ => ?_))
      | exact ih0 _ _ _ _ _ _ _
      | exact ih1 _ _ _ _ _ _ _
      | exact ih2 _ _ _ _ _ _ _
      | exact ih3 _ _ _ _ _ _ _
      | exact ih4 _ _ _ _ _ _
      | exact ih5 _ _ _ _ _ _
      | exact frisketref10_beside.mono _ _ _
      | exact frisketref10_separates.mono _ _ _ _
      | exact frisketref10_strong.mono _ _ _ _
      | exact LeO.none _
      | refine LeO.ite ?_ ?_
      | refine LeO.bind ?_ (fun _ => ?_)
    · intro y0 y1 y2 y3 y4 y5
      unfold frisketref10_at.j4
      repeat' first
      | (with_reducible exact ih0 _ _ _ _ _ _ _)
      | (with_reducible exact ih1 _ _ _ _ _ _ _)
      | (with_reducible exact ih2 _ _ _ _ _ _ _)
      | (with_reducible exact ih3 _ _ _ _ _ _ _)
      | (with_reducible exact ih4 _ _ _ _ _ _)
      | (with_reducible exact ih5 _ _ _ _ _ _)
      | (with_reducible exact frisketref10_beside.mono _ _ _)
      | (with_reducible exact frisketref10_separates.mono _ _ _ _)
      | (with_reducible exact frisketref10_strong.mono _ _ _ _)
      | (with_reducible exact LeO.refl _)
      | (with_reducible exact LeO.none _)
      | (with_reducible refine LeO.ite ?_ ?_)
      | (with_reducible refine LeO.bind ?_ (fun _ => ?_))
      | exact ih0 _ _ _ _ _ _ _
      | exact ih1 _ _ _ _ _ _ _
      | exact ih2 _ _ _ _ _ _ _
      | exact ih3 _ _ _ _ _ _ _
      | exact ih4 _ _ _ _ _ _
      | exact ih5 _ _ _ _ _ _
      | exact frisketref10_beside.mono _ _ _
      | exact frisketref10_separates.mono _ _ _ _
      | exact frisketref10_strong.mono _ _ _ _
      | exact LeO.none _
      | refine LeO.ite ?_ ?_
      | refine LeO.bind ?_ (fun _ => ?_)
    · intro y0 y1 y2 y3 y4 y5
      unfold frisketref10_at.j5
      repeat' first
      | (with_reducible exact ih0 _ _ _ _ _ _ _)
      | (with_reducible exact ih1 _ _ _ _ _ _ _)
      | (with_reducible exact ih2 _ _ _ _ _ _ _)
      | (with_reducible exact ih3 _ _ _ _ _ _ _)
      | (with_reducible exact ih4 _ _ _ _ _ _)
      | (with_reducible exact ih5 _ _ _ _ _ _)
      | (with_reducible exact frisketref10_beside.mono _ _ _)
      | (with_reducible exact frisketref10_separates.mono _ _ _ _)
      | (with_reducible exact frisketref10_strong.mono _ _ _ _)
      | (with_reducible exact LeO.refl _)
      | (with_reducible exact LeO.none _)
      | (with_reducible refine LeO.ite ?_ ?_)
      | (with_reducible refine LeO.bind ?_ (fun _ => ?_))
      | exact ih0 _ _ _ _ _ _ _
      | exact ih1 _ _ _ _ _ _ _
      | exact ih2 _ _ _ _ _ _ _
      | exact ih3 _ _ _ _ _ _ _
      | exact ih4 _ _ _ _ _ _
      | exact ih5 _ _ _ _ _ _
      | exact frisketref10_beside.mono _ _ _
      | exact frisketref10_separates.mono _ _ _ _
      | exact frisketref10_strong.mono _ _ _ _
      | exact LeO.none _
      | refine LeO.ite ?_ ?_
      | refine LeO.bind ?_ (fun _ => ?_)
theorem frisketref10_at.mono : ∀ a0 a1 a2 a3 a4 k, LeO (frisketref10_at.f k a0 a1 a2 a3 a4) (frisketref10_at.f (k + 1) a0 a1 a2 a3 a4) := by
  intro a0 a1 a2 a3 a4 k
  obtain ⟨ih0, ih1, ih2, ih3, ih4, ih5⟩ := frisketref10_at.mono_l k
  unfold frisketref10_at.f
  repeat' first
      | (with_reducible exact ih0 _ _ _ _ _ _ _)
      | (with_reducible exact ih1 _ _ _ _ _ _ _)
      | (with_reducible exact ih2 _ _ _ _ _ _ _)
      | (with_reducible exact ih3 _ _ _ _ _ _ _)
      | (with_reducible exact ih4 _ _ _ _ _ _)
      | (with_reducible exact ih5 _ _ _ _ _ _)
      | (with_reducible exact frisketref10_beside.mono _ _ _)
      | (with_reducible exact frisketref10_separates.mono _ _ _ _)
      | (with_reducible exact frisketref10_strong.mono _ _ _ _)
      | (with_reducible exact LeO.refl _)
      | (with_reducible exact LeO.none _)
      | (with_reducible refine LeO.ite ?_ ?_)
      | (with_reducible refine LeO.bind ?_ (fun _ => ?_))
      | exact ih0 _ _ _ _ _ _ _
      | exact ih1 _ _ _ _ _ _ _
      | exact ih2 _ _ _ _ _ _ _
      | exact ih3 _ _ _ _ _ _ _
      | exact ih4 _ _ _ _ _ _
      | exact ih5 _ _ _ _ _ _
      | exact frisketref10_beside.mono _ _ _
      | exact frisketref10_separates.mono _ _ _ _
      | exact frisketref10_strong.mono _ _ _ _
      | exact LeO.none _
      | refine LeO.ite ?_ ?_
      | refine LeO.bind ?_ (fun _ => ?_)
set_option maxHeartbeats 8000000 in
set_option maxRecDepth 100000 in
theorem frisketref10_at.calls (k : Nat) (a0 : Int) (A1 : Option Addr) (c1 : Nat) (l1 : List Int) (A2 : Option Addr) (c2 : Nat) (l2 : List Int) (a3 : Int) (a4 : Int) (r : Int) (w : World) (hr1 : Kd.C (Kd.int .i64) w A1 l1.length l1) (hc1 : l1.length ≤ c1) (hr2 : Kd.C (Kd.int .i64) w A2 l2.length l2) (hc2 : l2.length ≤ c2) (h : frisketref10_at.f k a0 l1 l2 a3 a4 = some r) :
    Calls Try.prog 16 #[.int .i64 a0, .slice A1 l1.length c1, .slice A2 l2.length c2, .int .i64 a3, .int .i64 a4] w fun e w' => e = .returned (.int .i64 r) ∧ Drawn0 w w' := by
  have HR1 := Aside0.mk hr1
  have HC1 := Aside0.mk hc1
  clear hr1 hc1
  have HR2 := Aside0.mk hr2
  have HC2 := Aside0.mk hc2
  clear hr2 hc2
  have H : (if 0 ≤ a3 then (if a3 < (l1.length : Int) then (if a0 = 1 then (frisketref10_at.j0 k a0 l1 l2 a3 a4 (rd l1 a3) ((rd l1 a3) == 8)) else (frisketref10_at.j0 k a0 l1 l2 a3 a4 (rd l1 a3) false)) else (none)) else (none)) = some r := h
  clear h
  by_cases c6 : 0 ≤ a3
  · rw [if_pos c6] at H
    have c6b0 : decide (0 ≤ a3) = true := decide_eq_true c6
    clear c6
    by_cases c7 : a3 < (l1.length : Int)
    · rw [if_pos c7] at H
      have c7b0 : decide (a3 < (l1.length : Int)) = true := decide_eq_true c7
      clear c7
      have HC8 := Aside0.mk H
      clear H
      have p225 : 0 ≤ (a3 : Int) := of_decide_eq_true (by first | (with_reducible assumption) | assumption)
      have q225 : a3 < (l1.length : Int) := of_decide_eq_true (by first | (with_reducible assumption) | assumption)
      obtain ⟨ad225, e225, hx225_0⟩ := Kd.at_int HR1.out a3 p225 q225
      cases e225
      replace p225 := eq_true p225
      replace q225 := eq_true q225
      go_enter Try.func16, Try.ntmps16
      go_upto_region 2 with (fail)
      go_cut [17] (fun v17 wc => ∃ (kq : Nat) (x17_7 : Bool), v17 = .bool x17_7 ∧ Aside0 (frisketref10_at.j0 kq a0 l1 l2 a3 a4 (rd l1 a3) x17_7 = some r) ∧ Aside0 (kq ≤ k) ∧ Drawn0 w wc)
      case first =>
        have H := HC8.out
        clear HC8
        by_cases c9 : a0 = 1
        · rw [if_pos c9] at H
          have c9b0 : (a0 == 1) = true := beq_iff_eq.mpr c9
          have c9b1 : (a0 != 1) = false := bne_eq_false_iff_eq.mpr c9
          clear c9
          (first | rw [c9b0] | (simp only [i64_w, i32_w]; rw [c9b0]) | skip)
          have H' := Aside0.mk H
          clear H
          go_wp2
          go_meet
          case rel => exact ⟨_, (((rd l1 a3) == 8)), (by first | rfl | (simp; done) | (simp [*]; done)), H', ⟨by first | omega | exact Nat.le_refl _⟩, by repeat (first | exact Drawn0.refl _ | apply Drawn0.step)⟩
        · rw [if_neg c9] at H
          have c9b0 : (a0 == 1) = false := beq_eq_false_iff_ne.mpr c9
          have c9b1 : (a0 != 1) = true := bne_iff_ne.mpr c9
          (first | rw [c9b0] | (simp only [i64_w, i32_w]; rw [c9b0]) | skip)
          have H' := Aside0.mk H
          clear H
          go_wp2
          go_meet
          case rel => exact ⟨_, (false), (by first | rfl | (simp; done) | (simp [*]; done)), H', ⟨by first | omega | exact Nat.le_refl _⟩, by repeat (first | exact Drawn0.refl _ | apply Drawn0.step)⟩
      case rest =>
        clear HC8
        try clear c1
        try clear c2
        try clear p2
        try clear q2
        try clear hx2
        try clear c6
        try clear c6b0
        try clear c7
        try clear c7b0
        try clear c9
        try clear c9b0
        try clear c9b1
        try clear hx225_0
        try clear p225
        try clear q225
        obtain ⟨kq, x17_7, rfl, HA, HJ7, ⟨mc7, rfl⟩⟩ := hcut
        cases kq with
        | zero => exact absurd HA.out (by simp [frisketref10_at.j0])
        | succ kj7 =>
          have H := HA.out
          clear HA
          simp only [frisketref10_at.j0] at H
          by_cases c10 : x17_7 = true
          · subst c10
            have H1 : (if a3 = 0 then (some a4) else (if 0 ≤ (wrap64 (a3 - 1)) then (if (wrap64 (a3 - 1)) < (l2.length : Int) then ((frisketref10_isolates.f (rd l2 (wrap64 (a3 - 1)))).bind fun t227 => (if t227 = true then (some 13) else (some (rd l2 (wrap64 (a3 - 1)))))) else (none)) else (none))) = some r := by rw [if_pos rfl] at H; exact H
            clear H
            have H := H1
            clear H1
            by_cases c11 : a3 = 0
            · rw [if_pos c11] at H
              have c11b0 : (a3 == 0) = true := beq_iff_eq.mpr c11
              have c11b1 : (a3 != 0) = false := bne_eq_false_iff_eq.mpr c11
              clear c11
              obtain rfl := Option.some.inj H
              go_wp2
              go_ret
              exact ⟨by first | rfl | (simp; done) | (simp [*]; done), by repeat (first | exact Drawn0.refl _ | apply Drawn0.step)⟩
            · rw [if_neg c11] at H
              have c11b0 : (a3 == 0) = false := beq_eq_false_iff_ne.mpr c11
              have c11b1 : (a3 != 0) = true := bne_iff_ne.mpr c11
              obtain ⟨ji12, hji12⟩ : ∃ j_ : Int, (wrap64 (a3 - 1)) = j_ := ⟨_, rfl⟩
              replace H : (if 0 ≤ (ji12) then (if (ji12) < (l2.length : Int) then ((frisketref10_isolates.f (rd l2 (ji12))).bind fun t227 => (if t227 = true then (some 13) else (some (rd l2 (ji12))))) else (none)) else (none)) = some r := by first | (rw [hji12] at H; exact H) | (simp only [hji12] at H ⊢; exact H)
              have hji12w : (IntKind.i64.wrap (a3 - 1)) = ji12 := (i64_w _).trans hji12
              by_cases c13 : 0 ≤ (ji12)
              · rw [if_pos c13] at H
                have c13b0 : decide (0 ≤ (ji12)) = true := decide_eq_true c13
                clear c13
                by_cases c14 : (ji12) < (l2.length : Int)
                · rw [if_pos c14] at H
                  have c14b0 : decide ((ji12) < (l2.length : Int)) = true := decide_eq_true c14
                  clear c14
                  replace H := Option.bind_eq_some_iff.mp H
                  obtain ⟨t227, A150, H⟩ := H
                  replace H : (if t227 = true then (some 13) else (some (rd l2 (ji12)))) = some r := H
                  have A15 := Aside0.mk A150
                  clear A150
                  by_cases c16 : t227 = true
                  · subst c16
                    have H1 : (some 13) = some r := by rw [if_pos rfl] at H; exact H
                    clear H
                    have H := H1
                    clear H1
                    obtain rfl := Option.some.inj H
                    have p226 : 0 ≤ ((ji12) : Int) := of_decide_eq_true (by first | (with_reducible assumption) | assumption)
                    have q226 : (ji12) < (l2.length : Int) := of_decide_eq_true (by first | (with_reducible assumption) | assumption)
                    obtain ⟨ad226, e226, hx226_0⟩ := Kd.at_int HR2.out (ji12) p226 q226
                    cases e226
                    replace p226 := eq_true p226
                    replace q226 := eq_true q226
                    go_wp2_with (first | ((with_reducible refine gate_callee (f := 24) rfl ?_); refine goesL_ (some 32) rfl rfl Try.func24 (by kernel_rfl) rfl #[.int .i64 (rd l2 (ji12))] rfl (by (try simp only [List.map_toArray, List.map_cons, List.map_nil]); first | done | (simp only [hji12]; rfl) | rfl | (simp only [List.length_drop, List.length_take]; rfl)) ?_; (with_reducible refine (frisketref10_isolates.calls (rd l2 (ji12)) true _ A15.out).mono ?_); rintro e w' ⟨rfl, ⟨nd, rfl⟩⟩; refine ⟨_, rfl, ?_⟩))
                    go_ret
                    exact ⟨by first | rfl | (simp; done) | (simp only [← hji12] <;> (first | rfl | simp)) | (simp [*]; done), by repeat (first | exact Drawn0.refl _ | apply Drawn0.step)⟩
                  · replace c16 := Bool.eq_false_iff.mpr c16
                    subst c16
                    have H1 : (some (rd l2 (ji12))) = some r := by rw [if_neg (show ¬ (false = true) by decide)] at H; exact H
                    clear H
                    have H := H1
                    clear H1
                    obtain rfl := Option.some.inj H
                    have p226 : 0 ≤ ((ji12) : Int) := of_decide_eq_true (by first | (with_reducible assumption) | assumption)
                    have q226 : (ji12) < (l2.length : Int) := of_decide_eq_true (by first | (with_reducible assumption) | assumption)
                    obtain ⟨ad226, e226, hx226_0⟩ := Kd.at_int HR2.out (ji12) p226 q226
                    cases e226
                    replace p226 := eq_true p226
                    replace q226 := eq_true q226
                    go_wp2_with (first | ((with_reducible refine gate_callee (f := 24) rfl ?_); refine goesL_ (some 32) rfl rfl Try.func24 (by kernel_rfl) rfl #[.int .i64 (rd l2 (ji12))] rfl (by (try simp only [List.map_toArray, List.map_cons, List.map_nil]); first | done | (simp only [hji12]; rfl) | rfl | (simp only [List.length_drop, List.length_take]; rfl)) ?_; (with_reducible refine (frisketref10_isolates.calls (rd l2 (ji12)) false _ A15.out).mono ?_); rintro e w' ⟨rfl, ⟨nd, rfl⟩⟩; refine ⟨_, rfl, ?_⟩; have p228 : 0 ≤ ((ji12) : Int) := of_decide_eq_true (by first | (with_reducible assumption) | assumption); have q228 : (ji12) < (l2.length : Int) := of_decide_eq_true (by first | (with_reducible assumption) | assumption); obtain ⟨ad228, e228, hx228_0⟩ := Kd.at_int HR2.out (ji12) p228 q228; obtain rfl : ad226 = ad228 := (by injection e228); replace p228 := eq_true p228; replace q228 := eq_true q228))
                    go_ret
                    exact ⟨by first | rfl | (simp; done) | (simp only [← hji12] <;> (first | rfl | simp)) | (simp [*]; done), by repeat (first | exact Drawn0.refl _ | apply Drawn0.step)⟩
                · rw [if_neg c14] at H
                  exact absurd H (by simp)
              · rw [if_neg c13] at H
                exact absurd H (by simp)
          · replace c10 := Bool.eq_false_iff.mpr c10
            subst c10
            have H1 : (if a0 = 2 then (if (rd l1 a3) = 3 then ((frisketref10_strong.f kj7 l1 a3 a4).bind fun t229 => (frisketref10_at.j1 kj7 a0 l1 l2 a3 a4 (rd l1 a3) (t229 == 2))) else (frisketref10_at.j1 kj7 a0 l1 l2 a3 a4 (rd l1 a3) false)) else (frisketref10_at.j1 kj7 a0 l1 l2 a3 a4 (rd l1 a3) false)) = some r := by rw [if_neg (show ¬ (false = true) by decide)] at H; exact H
            clear H
            have H := H1
            clear H1
            have HC17 := Aside0.mk H
            clear H
            go_upto_region 9 with (fail)
            go_cut [39] (fun v39 wc => ∃ (kq : Nat) (x39_16 : Bool), v39 = .bool x39_16 ∧ Aside0 (frisketref10_at.j1 kq a0 l1 l2 a3 a4 (rd l1 a3) x39_16 = some r) ∧ Aside0 (kq ≤ kj7) ∧ Drawn0 w wc)
            case first =>
              have H := HC17.out
              clear HC17
              by_cases c18 : a0 = 2
              · rw [if_pos c18] at H
                have c18b0 : (a0 == 2) = true := beq_iff_eq.mpr c18
                have c18b1 : (a0 != 2) = false := bne_eq_false_iff_eq.mpr c18
                clear c18
                (first | rw [c18b0] | (simp only [i64_w, i32_w]; rw [c18b0]) | skip)
                by_cases c19 : (rd l1 a3) = 3
                · rw [if_pos c19] at H
                  have c19b0 : ((rd l1 a3) == 3) = true := beq_iff_eq.mpr c19
                  have c19b1 : ((rd l1 a3) != 3) = false := bne_eq_false_iff_eq.mpr c19
                  clear c19
                  replace H := Option.bind_eq_some_iff.mp H
                  obtain ⟨t229, A200, H⟩ := H
                  replace H : (frisketref10_at.j1 kj7 a0 l1 l2 a3 a4 (rd l1 a3) (t229 == 2)) = some r := H
                  have A20 := Aside0.mk A200
                  clear A200
                  have H' := Aside0.mk H
                  clear H
                  go_wp2_with (first | (go_at_call 25; (with_reducible refine (frisketref10_strong.calls kj7 _ _ l1 a3 a4 t229 _ ?side1 ?side2 A20.out).mono ?_); (case side1 => repeat (first | exact HR1.out | (with_reducible refine Kd.C_alloc ?_ _) | (with_reducible refine Kd.C_drewN ?_ _) | (with_reducible refine Kd.C_drew ?_))); (case side2 => exact HC1.out); rintro e w' ⟨rfl, ⟨nd, rfl⟩⟩))
                  go_meet
                  case rel => exact ⟨_, ((t229 == 2)), (by first | rfl | (simp; done) | (simp [*]; done)), H', ⟨by have := HJ7.out; first | omega | exact Nat.le_refl _⟩, by repeat (first | exact Drawn0.refl _ | apply Drawn0.step)⟩
                · rw [if_neg c19] at H
                  have c19b0 : ((rd l1 a3) == 3) = false := beq_eq_false_iff_ne.mpr c19
                  have c19b1 : ((rd l1 a3) != 3) = true := bne_iff_ne.mpr c19
                  have H' := Aside0.mk H
                  clear H
                  go_wp2
                  go_meet
                  case rel => exact ⟨_, (false), (by first | rfl | (simp; done) | (simp [*]; done)), H', ⟨by have := HJ7.out; first | omega | exact Nat.le_refl _⟩, by repeat (first | exact Drawn0.refl _ | apply Drawn0.step)⟩
              · rw [if_neg c18] at H
                have c18b0 : (a0 == 2) = false := beq_eq_false_iff_ne.mpr c18
                have c18b1 : (a0 != 2) = true := bne_iff_ne.mpr c18
                (first | rw [c18b0] | (simp only [i64_w, i32_w]; rw [c18b0]) | skip)
                have H' := Aside0.mk H
                clear H
                go_wp2
                go_meet
                case rel => exact ⟨_, (false), (by first | rfl | (simp; done) | (simp [*]; done)), H', ⟨by have := HJ7.out; first | omega | exact Nat.le_refl _⟩, by repeat (first | exact Drawn0.refl _ | apply Drawn0.step)⟩
            case rest =>
              clear HC17
              try clear c1
              try clear c2
              try clear p2
              try clear q2
              try clear hx2
              try clear c6
              try clear c6b0
              try clear p6
              try clear c7
              try clear c7b0
              try clear c9
              try clear c9b0
              try clear c9b1
              try clear c10
              try clear c11
              try clear c11b0
              try clear c11b1
              try clear c13
              try clear c13b0
              try clear c14
              try clear c14b0
              try clear c16
              try clear c18
              try clear c18b0
              try clear c18b1
              try clear c19
              try clear c19b0
              try clear c19b1
              try clear hx225_0
              try clear hx226_0
              try clear hx228_0
              try clear p2
              try clear p225
              try clear p226
              try clear p228
              try clear q2
              try clear q225
              try clear q226
              try clear q228
              obtain ⟨kq, x39_16, rfl, HA, HJ16, ⟨mc16, rfl⟩⟩ := hcut
              cases kq with
              | zero => exact absurd HA.out (by simp [frisketref10_at.j1])
              | succ kj16 =>
                have H := HA.out
                clear HA
                simp only [frisketref10_at.j1] at H
                by_cases c21 : x39_16 = true
                · subst c21
                  have H1 : (some 6) = some r := by rw [if_pos rfl] at H; exact H
                  clear H
                  have H := H1
                  clear H1
                  obtain rfl := Option.some.inj H
                  go_wp2
                  go_ret
                  exact ⟨by first | rfl | (simp; done) | (simp [*]; done), by repeat (first | exact Drawn0.refl _ | apply Drawn0.step)⟩
                · replace c21 := Bool.eq_false_iff.mpr c21
                  subst c21
                  have H1 : (if a0 = 3 then (frisketref10_at.j2 kj16 a0 l1 l2 a3 a4 (rd l1 a3) ((rd l1 a3) == 2)) else (frisketref10_at.j2 kj16 a0 l1 l2 a3 a4 (rd l1 a3) false)) = some r := by rw [if_neg (show ¬ (false = true) by decide)] at H; exact H
                  clear H
                  have H := H1
                  clear H1
                  have HC22 := Aside0.mk H
                  clear H
                  go_upto_region 11 with (fail)
                  go_cut [53] (fun v53 wc => ∃ (kq : Nat) (x53_21 : Bool), v53 = .bool x53_21 ∧ Aside0 (frisketref10_at.j2 kq a0 l1 l2 a3 a4 (rd l1 a3) x53_21 = some r) ∧ Aside0 (kq ≤ kj16) ∧ Drawn0 w wc)
                  case first =>
                    have H := HC22.out
                    clear HC22
                    by_cases c23 : a0 = 3
                    · rw [if_pos c23] at H
                      have c23b0 : (a0 == 3) = true := beq_iff_eq.mpr c23
                      have c23b1 : (a0 != 3) = false := bne_eq_false_iff_eq.mpr c23
                      clear c23
                      (first | rw [c23b0] | (simp only [i64_w, i32_w]; rw [c23b0]) | skip)
                      have H' := Aside0.mk H
                      clear H
                      go_wp2
                      go_meet
                      case rel => exact ⟨_, (((rd l1 a3) == 2)), (by first | rfl | (simp; done) | (simp [*]; done)), H', ⟨by have := HJ7.out; have := HJ16.out; first | omega | exact Nat.le_refl _⟩, by repeat (first | exact Drawn0.refl _ | apply Drawn0.step)⟩
                    · rw [if_neg c23] at H
                      have c23b0 : (a0 == 3) = false := beq_eq_false_iff_ne.mpr c23
                      have c23b1 : (a0 != 3) = true := bne_iff_ne.mpr c23
                      (first | rw [c23b0] | (simp only [i64_w, i32_w]; rw [c23b0]) | skip)
                      have H' := Aside0.mk H
                      clear H
                      go_wp2
                      go_meet
                      case rel => exact ⟨_, (false), (by first | rfl | (simp; done) | (simp [*]; done)), H', ⟨by have := HJ7.out; have := HJ16.out; first | omega | exact Nat.le_refl _⟩, by repeat (first | exact Drawn0.refl _ | apply Drawn0.step)⟩
                  case rest =>
                    clear HC22
                    try clear c1
                    try clear c2
                    try clear p2
                    try clear q2
                    try clear hx2
                    try clear c6
                    try clear c6b0
                    try clear p6
                    try clear c7
                    try clear c7b0
                    try clear c9
                    try clear c9b0
                    try clear c9b1
                    try clear c10
                    try clear c11
                    try clear c11b0
                    try clear c11b1
                    try clear c13
                    try clear c13b0
                    try clear c14
                    try clear c14b0
                    try clear c16
                    try clear c18
                    try clear c18b0
                    try clear c18b1
                    try clear c19
                    try clear c19b0
                    try clear c19b1
                    try clear c21
                    try clear p22
                    try clear q22
                    try clear hx22
                    try clear c23
                    try clear c23b0
                    try clear c23b1
                    try clear hx225_0
                    try clear hx226_0
                    try clear hx228_0
                    try clear p2
                    try clear p225
                    try clear p226
                    try clear p228
                    try clear p6
                    try clear q2
                    try clear q225
                    try clear q226
                    try clear q228
                    obtain ⟨kq, x53_21, rfl, HA, HJ21, ⟨mc21, rfl⟩⟩ := hcut
                    cases kq with
                    | zero => exact absurd HA.out (by simp [frisketref10_at.j2])
                    | succ kj21 =>
                      have H := HA.out
                      clear HA
                      simp only [frisketref10_at.j2] at H
                      by_cases c24 : x53_21 = true
                      · subst c24
                        have H1 : (some 1) = some r := by rw [if_pos rfl] at H; exact H
                        clear H
                        have H := H1
                        clear H1
                        obtain rfl := Option.some.inj H
                        go_wp2
                        go_ret
                        exact ⟨by first | rfl | (simp; done) | (simp [*]; done), by repeat (first | exact Drawn0.refl _ | apply Drawn0.step)⟩
                      · replace c24 := Bool.eq_false_iff.mpr c24
                        subst c24
                        have H1 : (if a0 = 4 then (if (rd l1 a3) = 4 then (frisketref10_at.j3 kj21 a0 l1 l2 a3 a4 (rd l1 a3) true) else (frisketref10_at.j3 kj21 a0 l1 l2 a3 a4 (rd l1 a3) ((rd l1 a3) == 7))) else (frisketref10_at.j3 kj21 a0 l1 l2 a3 a4 (rd l1 a3) false)) = some r := by rw [if_neg (show ¬ (false = true) by decide)] at H; exact H
                        clear H
                        have H := H1
                        clear H1
                        have HC25 := Aside0.mk H
                        clear H
                        go_upto_region 13 with (fail)
                        go_cut [60] (fun v60 wc => ∃ (kq : Nat) (x60_24 : Bool), v60 = .bool x60_24 ∧ Aside0 (frisketref10_at.j3 kq a0 l1 l2 a3 a4 (rd l1 a3) x60_24 = some r) ∧ Aside0 (kq ≤ kj21) ∧ Drawn0 w wc)
                        case first =>
                          have H := HC25.out
                          clear HC25
                          by_cases c26 : a0 = 4
                          · rw [if_pos c26] at H
                            have c26b0 : (a0 == 4) = true := beq_iff_eq.mpr c26
                            have c26b1 : (a0 != 4) = false := bne_eq_false_iff_eq.mpr c26
                            clear c26
                            (first | rw [c26b0] | (simp only [i64_w, i32_w]; rw [c26b0]) | skip)
                            by_cases c27 : (rd l1 a3) = 4
                            · rw [if_pos c27] at H
                              have c27b0 : ((rd l1 a3) == 4) = true := beq_iff_eq.mpr c27
                              have c27b1 : ((rd l1 a3) != 4) = false := bne_eq_false_iff_eq.mpr c27
                              clear c27
                              have H' := Aside0.mk H
                              clear H
                              go_wp2
                              go_meet
                              case rel => exact ⟨_, (true), (by first | rfl | (simp; done) | (simp [*]; done)), H', ⟨by have := HJ7.out; have := HJ16.out; have := HJ21.out; first | omega | exact Nat.le_refl _⟩, by repeat (first | exact Drawn0.refl _ | apply Drawn0.step)⟩
                            · rw [if_neg c27] at H
                              have c27b0 : ((rd l1 a3) == 4) = false := beq_eq_false_iff_ne.mpr c27
                              have c27b1 : ((rd l1 a3) != 4) = true := bne_iff_ne.mpr c27
                              have H' := Aside0.mk H
                              clear H
                              go_wp2
                              go_meet
                              case rel => exact ⟨_, (((rd l1 a3) == 7)), (by first | rfl | (simp; done) | (simp [*]; done)), H', ⟨by have := HJ7.out; have := HJ16.out; have := HJ21.out; first | omega | exact Nat.le_refl _⟩, by repeat (first | exact Drawn0.refl _ | apply Drawn0.step)⟩
                          · rw [if_neg c26] at H
                            have c26b0 : (a0 == 4) = false := beq_eq_false_iff_ne.mpr c26
                            have c26b1 : (a0 != 4) = true := bne_iff_ne.mpr c26
                            (first | rw [c26b0] | (simp only [i64_w, i32_w]; rw [c26b0]) | skip)
                            have H' := Aside0.mk H
                            clear H
                            go_wp2
                            go_meet
                            case rel => exact ⟨_, (false), (by first | rfl | (simp; done) | (simp [*]; done)), H', ⟨by have := HJ7.out; have := HJ16.out; have := HJ21.out; first | omega | exact Nat.le_refl _⟩, by repeat (first | exact Drawn0.refl _ | apply Drawn0.step)⟩
                        case rest =>
                          clear HC25
                          try clear c1
                          try clear c2
                          try clear p2
                          try clear q2
                          try clear hx2
                          try clear c6
                          try clear c6b0
                          try clear p6
                          try clear c7
                          try clear c7b0
                          try clear c9
                          try clear c9b0
                          try clear c9b1
                          try clear c10
                          try clear c11
                          try clear c11b0
                          try clear c11b1
                          try clear c13
                          try clear c13b0
                          try clear c14
                          try clear c14b0
                          try clear c16
                          try clear c18
                          try clear c18b0
                          try clear c18b1
                          try clear c19
                          try clear c19b0
                          try clear c19b1
                          try clear c21
                          try clear p22
                          try clear q22
                          try clear hx22
                          try clear c23
                          try clear c23b0
                          try clear c23b1
                          try clear c24
                          try clear c26
                          try clear c26b0
                          try clear c26b1
                          try clear c27
                          try clear c27b0
                          try clear c27b1
                          try clear hx225_0
                          try clear hx226_0
                          try clear hx228_0
                          try clear p2
                          try clear p22
                          try clear p225
                          try clear p226
                          try clear p228
                          try clear p6
                          try clear q2
                          try clear q22
                          try clear q225
                          try clear q226
                          try clear q228
                          obtain ⟨kq, x60_24, rfl, HA, HJ24, ⟨mc24, rfl⟩⟩ := hcut
                          cases kq with
                          | zero => exact absurd HA.out (by simp [frisketref10_at.j3])
                          | succ kj24 =>
                            have H := HA.out
                            clear HA
                            simp only [frisketref10_at.j3] at H
                            by_cases c28 : x60_24 = true
                            · subst c28
                              have H1 : ((frisketref10_separates.f kj24 l1 l2 a3).bind fun t230 => (some t230)) = some r := by rw [if_pos rfl] at H; exact H
                              clear H
                              have H := H1
                              clear H1
                              replace H := Option.bind_eq_some_iff.mp H
                              obtain ⟨t230, A290, H⟩ := H
                              replace H : (some t230) = some r := H
                              have A29 := Aside0.mk A290
                              clear A290
                              obtain rfl := Option.some.inj H
                              go_wp2_with (first | ((with_reducible refine gate_callee (f := 26) rfl ?_); refine goesL_ (some 74) rfl rfl Try.func26 (by kernel_rfl) rfl #[.slice (some ad225) l1.length c1, .slice A2 l2.length c2, .int .i64 a3] rfl (by (try simp only [List.map_toArray, List.map_cons, List.map_nil]); first | done | rfl | (simp only [List.length_drop, List.length_take]; rfl)) ?_; (with_reducible refine (frisketref10_separates.calls kj24 _ _ l1 _ _ l2 a3 t230 _ ?side1 ?side2 ?side3 ?side4 A29.out).mono ?_); (case side1 => repeat (first | exact HR1.out | (with_reducible refine Kd.C_alloc ?_ _) | (with_reducible refine Kd.C_drewN ?_ _) | (with_reducible refine Kd.C_drew ?_))); (case side2 => exact HC1.out); (case side3 => repeat (first | exact HR2.out | (with_reducible refine Kd.C_alloc ?_ _) | (with_reducible refine Kd.C_drewN ?_ _) | (with_reducible refine Kd.C_drew ?_))); (case side4 => exact HC2.out); rintro e w' ⟨rfl, ⟨nd, rfl⟩⟩; refine ⟨_, rfl, ?_⟩))
                              go_ret
                              exact ⟨by first | rfl | (simp; done) | (simp [*]; done), by repeat (first | exact Drawn0.refl _ | apply Drawn0.step)⟩
                            · replace c28 := Bool.eq_false_iff.mpr c28
                              subst c28
                              have H1 : (if a0 = 5 then (if (rd l1 a3) = 5 then ((frisketref10_beside.f kj24 l1 a3).bind fun t231 => (frisketref10_at.j4 kj24 a0 l1 a3 a4 (rd l1 a3) t231)) else (frisketref10_at.j4 kj24 a0 l1 a3 a4 (rd l1 a3) false)) else (frisketref10_at.j4 kj24 a0 l1 a3 a4 (rd l1 a3) false)) = some r := by rw [if_neg (show ¬ (false = true) by decide)] at H; exact H
                              clear H
                              have H := H1
                              clear H1
                              have HC30 := Aside0.mk H
                              clear H
                              go_upto_region 15 with (fail)
                              go_cut [75] (fun v75 wc => ∃ (kq : Nat) (x75_29 : Bool), v75 = .bool x75_29 ∧ Aside0 (frisketref10_at.j4 kq a0 l1 a3 a4 (rd l1 a3) x75_29 = some r) ∧ Aside0 (kq ≤ kj24) ∧ Drawn0 w wc)
                              case first =>
                                have H := HC30.out
                                clear HC30
                                by_cases c31 : a0 = 5
                                · rw [if_pos c31] at H
                                  have c31b0 : (a0 == 5) = true := beq_iff_eq.mpr c31
                                  have c31b1 : (a0 != 5) = false := bne_eq_false_iff_eq.mpr c31
                                  clear c31
                                  (first | rw [c31b0] | (simp only [i64_w, i32_w]; rw [c31b0]) | skip)
                                  by_cases c32 : (rd l1 a3) = 5
                                  · rw [if_pos c32] at H
                                    have c32b0 : ((rd l1 a3) == 5) = true := beq_iff_eq.mpr c32
                                    have c32b1 : ((rd l1 a3) != 5) = false := bne_eq_false_iff_eq.mpr c32
                                    clear c32
                                    replace H := Option.bind_eq_some_iff.mp H
                                    obtain ⟨t231, A330, H⟩ := H
                                    replace H : (frisketref10_at.j4 kj24 a0 l1 a3 a4 (rd l1 a3) t231) = some r := H
                                    have A33 := Aside0.mk A330
                                    clear A330
                                    have H' := Aside0.mk H
                                    clear H
                                    go_wp2_with (first | (go_at_call 27; (with_reducible refine (frisketref10_beside.calls kj24 _ _ l1 a3 t231 _ ?side1 ?side2 A33.out).mono ?_); (case side1 => repeat (first | exact HR1.out | (with_reducible refine Kd.C_alloc ?_ _) | (with_reducible refine Kd.C_drewN ?_ _) | (with_reducible refine Kd.C_drew ?_))); (case side2 => exact HC1.out); rintro e w' ⟨rfl, ⟨nd, rfl⟩⟩))
                                    go_meet
                                    case rel => exact ⟨_, (t231), (by first | rfl | (simp; done) | (simp [*]; done)), H', ⟨by have := HJ7.out; have := HJ16.out; have := HJ21.out; have := HJ24.out; first | omega | exact Nat.le_refl _⟩, by repeat (first | exact Drawn0.refl _ | apply Drawn0.step)⟩
                                  · rw [if_neg c32] at H
                                    have c32b0 : ((rd l1 a3) == 5) = false := beq_eq_false_iff_ne.mpr c32
                                    have c32b1 : ((rd l1 a3) != 5) = true := bne_iff_ne.mpr c32
                                    have H' := Aside0.mk H
                                    clear H
                                    go_wp2
                                    go_meet
                                    case rel => exact ⟨_, (false), (by first | rfl | (simp; done) | (simp [*]; done)), H', ⟨by have := HJ7.out; have := HJ16.out; have := HJ21.out; have := HJ24.out; first | omega | exact Nat.le_refl _⟩, by repeat (first | exact Drawn0.refl _ | apply Drawn0.step)⟩
                                · rw [if_neg c31] at H
                                  have c31b0 : (a0 == 5) = false := beq_eq_false_iff_ne.mpr c31
                                  have c31b1 : (a0 != 5) = true := bne_iff_ne.mpr c31
                                  (first | rw [c31b0] | (simp only [i64_w, i32_w]; rw [c31b0]) | skip)
                                  have H' := Aside0.mk H
                                  clear H
                                  go_wp2
                                  go_meet
                                  case rel => exact ⟨_, (false), (by first | rfl | (simp; done) | (simp [*]; done)), H', ⟨by have := HJ7.out; have := HJ16.out; have := HJ21.out; have := HJ24.out; first | omega | exact Nat.le_refl _⟩, by repeat (first | exact Drawn0.refl _ | apply Drawn0.step)⟩
                              case rest =>
                                clear HC30
                                try clear c1
                                try clear c2
                                try clear p2
                                try clear q2
                                try clear hx2
                                try clear c3
                                try clear c6
                                try clear c6b0
                                try clear p6
                                try clear c7
                                try clear c7b0
                                try clear c9
                                try clear c9b0
                                try clear c9b1
                                try clear c10
                                try clear c11
                                try clear c11b0
                                try clear c11b1
                                try clear c13
                                try clear c13b0
                                try clear c14
                                try clear c14b0
                                try clear c16
                                try clear c18
                                try clear c18b0
                                try clear c18b1
                                try clear c19
                                try clear c19b0
                                try clear c19b1
                                try clear c21
                                try clear p22
                                try clear q22
                                try clear hx22
                                try clear c23
                                try clear c23b0
                                try clear c23b1
                                try clear c24
                                try clear c26
                                try clear c26b0
                                try clear c26b1
                                try clear c27
                                try clear c27b0
                                try clear c27b1
                                try clear c28
                                try clear c31
                                try clear c31b0
                                try clear c31b1
                                try clear c32
                                try clear c32b0
                                try clear c32b1
                                try clear hx225_0
                                try clear hx226_0
                                try clear hx228_0
                                try clear p2
                                try clear p22
                                try clear p225
                                try clear p226
                                try clear p228
                                try clear p6
                                try clear q2
                                try clear q22
                                try clear q225
                                try clear q226
                                try clear q228
                                obtain ⟨kq, x75_29, rfl, HA, HJ29, ⟨mc29, rfl⟩⟩ := hcut
                                cases kq with
                                | zero => exact absurd HA.out (by simp [frisketref10_at.j4])
                                | succ kj29 =>
                                  have H := HA.out
                                  clear HA
                                  simp only [frisketref10_at.j4] at H
                                  by_cases c34 : x75_29 = true
                                  · subst c34
                                    have H1 : (some 3) = some r := by rw [if_pos rfl] at H; exact H
                                    clear H
                                    have H := H1
                                    clear H1
                                    obtain rfl := Option.some.inj H
                                    go_wp2
                                    go_ret
                                    exact ⟨by first | rfl | (simp; done) | (simp [*]; done), by repeat (first | exact Drawn0.refl _ | apply Drawn0.step)⟩
                                  · replace c34 := Bool.eq_false_iff.mpr c34
                                    subst c34
                                    have H1 : (if a0 = 6 then (if (rd l1 a3) = 4 then (frisketref10_at.j5 kj29 a0 l1 a3 a4 (rd l1 a3) true) else (if (rd l1 a3) = 5 then (frisketref10_at.j5 kj29 a0 l1 a3 a4 (rd l1 a3) true) else (frisketref10_at.j5 kj29 a0 l1 a3 a4 (rd l1 a3) ((rd l1 a3) == 7)))) else (frisketref10_at.j5 kj29 a0 l1 a3 a4 (rd l1 a3) false)) = some r := by rw [if_neg (show ¬ (false = true) by decide)] at H; exact H
                                    clear H
                                    have H := H1
                                    clear H1
                                    have HC35 := Aside0.mk H
                                    clear H
                                    go_upto_region 17 with (fail)
                                    go_cut [87] (fun v87 wc => ∃ (kq : Nat) (x87_34 : Bool), v87 = .bool x87_34 ∧ Aside0 (frisketref10_at.j5 kq a0 l1 a3 a4 (rd l1 a3) x87_34 = some r) ∧ Aside0 (kq ≤ kj29) ∧ Drawn0 w wc)
                                    case first =>
                                      have H := HC35.out
                                      clear HC35
                                      by_cases c36 : a0 = 6
                                      · rw [if_pos c36] at H
                                        have c36b0 : (a0 == 6) = true := beq_iff_eq.mpr c36
                                        have c36b1 : (a0 != 6) = false := bne_eq_false_iff_eq.mpr c36
                                        clear c36
                                        (first | rw [c36b0] | (simp only [i64_w, i32_w]; rw [c36b0]) | skip)
                                        by_cases c37 : (rd l1 a3) = 4
                                        · rw [if_pos c37] at H
                                          have c37b0 : ((rd l1 a3) == 4) = true := beq_iff_eq.mpr c37
                                          have c37b1 : ((rd l1 a3) != 4) = false := bne_eq_false_iff_eq.mpr c37
                                          clear c37
                                          have H' := Aside0.mk H
                                          clear H
                                          go_wp2
                                          go_meet
                                          case rel => exact ⟨_, (true), (by first | rfl | (simp; done) | (simp [*]; done)), H', ⟨by have := HJ7.out; have := HJ16.out; have := HJ21.out; have := HJ24.out; have := HJ29.out; first | omega | exact Nat.le_refl _⟩, by repeat (first | exact Drawn0.refl _ | apply Drawn0.step)⟩
                                        · rw [if_neg c37] at H
                                          have c37b0 : ((rd l1 a3) == 4) = false := beq_eq_false_iff_ne.mpr c37
                                          have c37b1 : ((rd l1 a3) != 4) = true := bne_iff_ne.mpr c37
                                          by_cases c38 : (rd l1 a3) = 5
                                          · rw [if_pos c38] at H
                                            have c38b0 : ((rd l1 a3) == 5) = true := beq_iff_eq.mpr c38
                                            have c38b1 : ((rd l1 a3) != 5) = false := bne_eq_false_iff_eq.mpr c38
                                            clear c38
                                            have H' := Aside0.mk H
                                            clear H
                                            go_wp2
                                            go_meet
                                            case rel => exact ⟨_, (true), (by first | rfl | (simp; done) | (simp [*]; done)), H', ⟨by have := HJ7.out; have := HJ16.out; have := HJ21.out; have := HJ24.out; have := HJ29.out; first | omega | exact Nat.le_refl _⟩, by repeat (first | exact Drawn0.refl _ | apply Drawn0.step)⟩
                                          · rw [if_neg c38] at H
                                            have c38b0 : ((rd l1 a3) == 5) = false := beq_eq_false_iff_ne.mpr c38
                                            have c38b1 : ((rd l1 a3) != 5) = true := bne_iff_ne.mpr c38
                                            have H' := Aside0.mk H
                                            clear H
                                            go_wp2
                                            go_meet
                                            case rel => exact ⟨_, (((rd l1 a3) == 7)), (by first | rfl | (simp; done) | (simp [*]; done)), H', ⟨by have := HJ7.out; have := HJ16.out; have := HJ21.out; have := HJ24.out; have := HJ29.out; first | omega | exact Nat.le_refl _⟩, by repeat (first | exact Drawn0.refl _ | apply Drawn0.step)⟩
                                      · rw [if_neg c36] at H
                                        have c36b0 : (a0 == 6) = false := beq_eq_false_iff_ne.mpr c36
                                        have c36b1 : (a0 != 6) = true := bne_iff_ne.mpr c36
                                        (first | rw [c36b0] | (simp only [i64_w, i32_w]; rw [c36b0]) | skip)
                                        have H' := Aside0.mk H
                                        clear H
                                        go_wp2
                                        go_meet
                                        case rel => exact ⟨_, (false), (by first | rfl | (simp; done) | (simp [*]; done)), H', ⟨by have := HJ7.out; have := HJ16.out; have := HJ21.out; have := HJ24.out; have := HJ29.out; first | omega | exact Nat.le_refl _⟩, by repeat (first | exact Drawn0.refl _ | apply Drawn0.step)⟩
                                    case rest =>
                                      clear HC35
                                      try clear c1
                                      try clear c2
                                      try clear p2
                                      try clear q2
                                      try clear hx2
                                      try clear c3
                                      try clear c6
                                      try clear c6b0
                                      try clear p6
                                      try clear c7
                                      try clear c7b0
                                      try clear c9
                                      try clear c9b0
                                      try clear c9b1
                                      try clear c10
                                      try clear c11
                                      try clear c11b0
                                      try clear c11b1
                                      try clear c13
                                      try clear c13b0
                                      try clear c14
                                      try clear c14b0
                                      try clear c16
                                      try clear c18
                                      try clear c18b0
                                      try clear c18b1
                                      try clear c19
                                      try clear c19b0
                                      try clear c19b1
                                      try clear c21
                                      try clear p22
                                      try clear q22
                                      try clear hx22
                                      try clear c23
                                      try clear c23b0
                                      try clear c23b1
                                      try clear c24
                                      try clear c26
                                      try clear c26b0
                                      try clear c26b1
                                      try clear c27
                                      try clear c27b0
                                      try clear c27b1
                                      try clear c28
                                      try clear c29
                                      try clear c31
                                      try clear c31b0
                                      try clear c31b1
                                      try clear c32
                                      try clear c32b0
                                      try clear c32b1
                                      try clear c34
                                      try clear c36
                                      try clear c36b0
                                      try clear c36b1
                                      try clear c37
                                      try clear c37b0
                                      try clear c37b1
                                      try clear c38
                                      try clear c38b0
                                      try clear c38b1
                                      try clear hx225_0
                                      try clear hx226_0
                                      try clear hx228_0
                                      try clear p2
                                      try clear p22
                                      try clear p225
                                      try clear p226
                                      try clear p228
                                      try clear p6
                                      try clear q2
                                      try clear q22
                                      try clear q225
                                      try clear q226
                                      try clear q228
                                      obtain ⟨kq, x87_34, rfl, HA, HJ34, ⟨mc34, rfl⟩⟩ := hcut
                                      cases kq with
                                      | zero => exact absurd HA.out (by simp [frisketref10_at.j5])
                                      | succ kj34 =>
                                        have H := HA.out
                                        clear HA
                                        simp only [frisketref10_at.j5] at H
                                        by_cases c39 : x87_34 = true
                                        · subst c39
                                          have H1 : (some 13) = some r := by rw [if_pos rfl] at H; exact H
                                          clear H
                                          have H := H1
                                          clear H1
                                          obtain rfl := Option.some.inj H
                                          go_wp2
                                          go_ret
                                          exact ⟨by first | rfl | (simp; done) | (simp [*]; done), by repeat (first | exact Drawn0.refl _ | apply Drawn0.step)⟩
                                        · replace c39 := Bool.eq_false_iff.mpr c39
                                          subst c39
                                          have H1 : (if a0 = 7 then (if (rd l1 a3) = 3 then ((frisketref10_strong.f kj34 l1 a3 a4).bind fun t232 => (if t232 = 0 then (some 0) else (some (rd l1 a3)))) else (some (rd l1 a3))) else (some (rd l1 a3))) = some r := by rw [if_neg (show ¬ (false = true) by decide)] at H; exact H
                                          clear H
                                          have H := H1
                                          clear H1
                                          by_cases c40 : a0 = 7
                                          · rw [if_pos c40] at H
                                            have c40b0 : (a0 == 7) = true := beq_iff_eq.mpr c40
                                            have c40b1 : (a0 != 7) = false := bne_eq_false_iff_eq.mpr c40
                                            clear c40
                                            by_cases c41 : (rd l1 a3) = 3
                                            · rw [if_pos c41] at H
                                              have c41b0 : ((rd l1 a3) == 3) = true := beq_iff_eq.mpr c41
                                              have c41b1 : ((rd l1 a3) != 3) = false := bne_eq_false_iff_eq.mpr c41
                                              clear c41
                                              replace H := Option.bind_eq_some_iff.mp H
                                              obtain ⟨t232, A420, H⟩ := H
                                              replace H : (if t232 = 0 then (some 0) else (some (rd l1 a3))) = some r := H
                                              have A42 := Aside0.mk A420
                                              clear A420
                                              by_cases c43 : t232 = 0
                                              · rw [if_pos c43] at H
                                                have c43b0 : (t232 == 0) = true := beq_iff_eq.mpr c43
                                                have c43b1 : (t232 != 0) = false := bne_eq_false_iff_eq.mpr c43
                                                clear c43
                                                obtain rfl := Option.some.inj H
                                                go_wp2_with (first | (go_at_call 25; (with_reducible refine (frisketref10_strong.calls kj34 _ _ l1 a3 a4 t232 _ ?side1 ?side2 A42.out).mono ?_); (case side1 => repeat (first | exact HR1.out | (with_reducible refine Kd.C_alloc ?_ _) | (with_reducible refine Kd.C_drewN ?_ _) | (with_reducible refine Kd.C_drew ?_))); (case side2 => exact HC1.out); rintro e w' ⟨rfl, ⟨nd, rfl⟩⟩))
                                                go_ret
                                                exact ⟨by first | rfl | (simp; done) | (simp [*]; done), by repeat (first | exact Drawn0.refl _ | apply Drawn0.step)⟩
                                              · rw [if_neg c43] at H
                                                have c43b0 : (t232 == 0) = false := beq_eq_false_iff_ne.mpr c43
                                                have c43b1 : (t232 != 0) = true := bne_iff_ne.mpr c43
                                                obtain rfl := Option.some.inj H
                                                go_wp2_with (first | (go_at_call 25; (with_reducible refine (frisketref10_strong.calls kj34 _ _ l1 a3 a4 t232 _ ?side1 ?side2 A42.out).mono ?_); (case side1 => repeat (first | exact HR1.out | (with_reducible refine Kd.C_alloc ?_ _) | (with_reducible refine Kd.C_drewN ?_ _) | (with_reducible refine Kd.C_drew ?_))); (case side2 => exact HC1.out); rintro e w' ⟨rfl, ⟨nd, rfl⟩⟩))
                                                go_ret
                                                exact ⟨by first | rfl | (simp; done) | (simp [*]; done), by repeat (first | exact Drawn0.refl _ | apply Drawn0.step)⟩
                                            · rw [if_neg c41] at H
                                              have c41b0 : ((rd l1 a3) == 3) = false := beq_eq_false_iff_ne.mpr c41
                                              have c41b1 : ((rd l1 a3) != 3) = true := bne_iff_ne.mpr c41
                                              obtain rfl := Option.some.inj H
                                              go_wp2
                                              go_ret
                                              exact ⟨by first | rfl | (simp; done) | (simp [*]; done), by repeat (first | exact Drawn0.refl _ | apply Drawn0.step)⟩
                                          · rw [if_neg c40] at H
                                            have c40b0 : (a0 == 7) = false := beq_eq_false_iff_ne.mpr c40
                                            have c40b1 : (a0 != 7) = true := bne_iff_ne.mpr c40
                                            obtain rfl := Option.some.inj H
                                            go_wp2
                                            go_ret
                                            exact ⟨by first | rfl | (simp; done) | (simp [*]; done), by repeat (first | exact Drawn0.refl _ | apply Drawn0.step)⟩
    · rw [if_neg c7] at H
      exact absurd H (by simp)
  · rw [if_neg c6] at H
    exact absurd H (by simp)

end Go.Proofs.Ytdhknnaholaohaa.P
