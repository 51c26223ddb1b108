/- Written by wip/tools/gprint.py of this repo over the translation: Lean functions that answer as the Go functions named below do, and the proof of it; the conditions stand in each theorem. -/
import Derived.Test.YtbcflgiapiclgaaP0
import Derived.Test.YtbcflgiapiclgaaP10
import Derived.Test.YtbcflgiapiclgaaP11
import Derived.Test.YtbcflgiapiclgaaP12
namespace Go.Proofs.Ytbcflgiapiclgaa.P
open Go.RowKit Go.Proofs.YtbcflgiapiclgaaW.PrintWords Go.Proofs.YtbcflgiapiclgaaW.PrintLast Go.Proofs.YtbcflgiapiclgaaW.PrintMore
attribute [local go_sem] max2_int min2_int max_two min_two max_three min_three max_four min_four   -- for this text's walks alone
set_option linter.unusedVariables false
set_option linter.unusedSimpArgs false

/-! ### frisketref06_At: function 15 -/
mutual
def frisketref06_At.j0 : Nat → List Int → Int → Bool → Option (Int)
  | 0, _, _, _ => none
  | k + 1, x0, x1, x19 => if x19 = true then (some 0) else (if x1 = (x0.length : Int) then (some 2) else ((frisketref06_Counts.f k x0).bind fun t142 => (if 0 ≤ (wrap64 (x1 - 1)) then (if (wrap64 (x1 - 1)) < (t142.length : Int) then (if 0 ≤ x1 then (if x1 < (t142.length : Int) then (if (rd t142 (wrap64 (x1 - 1))) = 8 then (frisketref06_At.j1 k x0 x1 t142 (rd t142 (wrap64 (x1 - 1))) (rd t142 x1) true) else (if (rd t142 (wrap64 (x1 - 1))) = 9 then (frisketref06_At.j1 k x0 x1 t142 (rd t142 (wrap64 (x1 - 1))) (rd t142 x1) true) else (frisketref06_At.j1 k x0 x1 t142 (rd t142 (wrap64 (x1 - 1))) (rd t142 x1) ((rd t142 (wrap64 (x1 - 1))) == 11)))) else (none)) else (none)) else (none)) else (none))))
def frisketref06_At.j1 : Nat → List Int → Int → List Int → Int → Int → Bool → Option (Int)
  | 0, _, _, _, _, _, _ => none
  | k + 1, x0, x1, x5, x6, x7, x8 => (frisketref06_behind.f k x5 (wrap64 (x1 - 1)) 9).bind fun t147 => ((frisketref06_behind.f k x5 (wrap64 (x1 - 1)) 3).bind fun t148 => ((frisketref06_word.f x6).bind fun t149 => (if t149 = true then ((frisketref06_word.f x7).bind fun t150 => (frisketref06_At.j2 k x0 x1 x6 x7 x8 t147 t148 t150)) else (frisketref06_At.j2 k x0 x1 x6 x7 x8 t147 t148 false))))
def frisketref06_At.j2 : Nat → List Int → Int → Int → Int → Bool → Bool → Bool → Bool → Option (Int)
  | 0, _, _, _, _, _, _, _, _ => none
  | k + 1, x0, x1, x6, x7, x8, x9, x10, x11 => if 0 ≤ x1 then (if x1 < (x0.length : Int) then (if (rd x0 x1) = 10 then (frisketref06_At.j3 k x6 x7 x9 x10 x11 (!x8)) else (frisketref06_At.j3 k x6 x7 x9 x10 x11 false)) else (none)) else (none)
def frisketref06_At.j3 : Nat → Int → Int → Bool → Bool → Bool → Bool → Option (Int)
  | 0, _, _, _, _, _, _ => none
  | k + 1, x6, x7, x9, x10, x11, x59 => if x59 = true then (some 0) else (if x6 = 11 then (some 2) else (if x7 = 11 then (frisketref06_At.j4 k x6 x7 x9 x10 x11 true) else (if x7 = 8 then (frisketref06_At.j4 k x6 x7 x9 x10 x11 true) else (frisketref06_At.j4 k x6 x7 x9 x10 x11 (x7 == 9)))))
def frisketref06_At.j4 : Nat → Int → Int → Bool → Bool → Bool → Bool → Option (Int)
  | 0, _, _, _, _, _, _ => none
  | k + 1, x6, x7, x9, x10, x11, x72 => if x72 = true then (some 0) else (if x9 = true then (some 1) else (if x7 = 4 then (frisketref06_At.j5 k x6 x7 x11 true) else (frisketref06_At.j5 k x6 x7 x11 x10)))
def frisketref06_At.j5 : Nat → Int → Int → Bool → Bool → Option (Int)
  | 0, _, _, _, _ => none
  | k + 1, x6, x7, x11, x85 => if x85 = true then (some 0) else (if x6 = 8 then (some 1) else (if x6 = 7 then (frisketref06_At.j6 k x6 x7 true) else (if x7 = 7 then (frisketref06_At.j6 k x6 x7 true) else (if x7 = 5 then (frisketref06_At.j6 k x6 x7 true) else (if x7 = 6 then (frisketref06_At.j6 k x6 x7 true) else (frisketref06_At.j6 k x6 x7 x11))))))
def frisketref06_At.j6 : Nat → Int → Int → Bool → Option (Int)
  | 0, _, _, _ => none
  | k + 1, x6, x7, x94 => if x94 = true then (some 0) else (if x6 = 5 then (if x7 = 1 then (some 0) else (some 1)) else (some 1))
end
def frisketref06_At.f (k : Nat) (l0 : List Int) (a1 : Int) : Option (Int) := if a1 ≤ 0 then (frisketref06_At.j0 k l0 a1 true) else (frisketref06_At.j0 k l0 a1 (decide (a1 > (l0.length : Int))))
theorem frisketref06_At.mono_l : ∀ k, (∀ y0 y1 y2, LeO (frisketref06_At.j0 k y0 y1 y2) (frisketref06_At.j0 (k + 1) y0 y1 y2)) ∧ (∀ y0 y1 y2 y3 y4 y5, LeO (frisketref06_At.j1 k y0 y1 y2 y3 y4 y5) (frisketref06_At.j1 (k + 1) y0 y1 y2 y3 y4 y5)) ∧ (∀ y0 y1 y2 y3 y4 y5 y6 y7, LeO (frisketref06_At.j2 k y0 y1 y2 y3 y4 y5 y6 y7) (frisketref06_At.j2 (k + 1) y0 y1 y2 y3 y4 y5 y6 y7)) ∧ (∀ y0 y1 y2 y3 y4 y5, LeO (frisketref06_At.j3 k y0 y1 y2 y3 y4 y5) (frisketref06_At.j3 (k + 1) y0 y1 y2 y3 y4 y5)) ∧ (∀ y0 y1 y2 y3 y4 y5, LeO (frisketref06_At.j4 k y0 y1 y2 y3 y4 y5) (frisketref06_At.j4 (k + 1) y0 y1 y2 y3 y4 y5)) ∧ (∀ y0 y1 y2 y3, LeO (frisketref06_At.j5 k y0 y1 y2 y3) (frisketref06_At.j5 (k + 1) y0 y1 y2 y3)) ∧ (∀ y0 y1 y2, LeO (frisketref06_At.j6 k y0 y1 y2) (frisketref06_At.j6 (k + 1) y0 y1 y2))
  | 0 => ⟨fun _ _ _ r h => by simp [frisketref06_At.j0] at h, fun _ _ _ _ _ _ r h => by simp [frisketref06_At.j1] at h, fun _ _ _ _ _ _ _ _ r h => by simp [frisketref06_At.j2] at h, fun _ _ _ _ _ _ r h => by simp [frisketref06_At.j3] at h, fun _ _ _ _ _ _ r h => by simp [frisketref06_At.j4] at h, fun _ _ _ _ r h => by simp [frisketref06_At.j5] at h, fun _ _ _ r h => by simp [frisketref06_At.j6] at h⟩
  | k + 1 => by
    obtain ⟨ih0, ih1, ih2, ih3, ih4, ih5, ih6⟩ := frisketref06_At.mono_l k
    refine ⟨?_, ?_, ?_, ?_, ?_, ?_, ?_⟩
    · intro y0 y1 y2
      unfold frisketref06_At.j0
      repeat' first
      | (with_reducible exact ih0 _ _ _)
      | (with_reducible exact ih1 _ _ _ _ _ _)
      | (with_reducible exact ih2 _ _ _ _ _ _ _ _)
      | (with_reducible exact ih3 _ _ _ _ _ _)
      | (with_reducible exact ih4 _ _ _ _ _ _)
      | (with_reducible exact ih5 _ _ _ _)
      | (with_reducible exact ih6 _ _ _)
      | (with_reducible exact frisketref06_Counts.mono _ _)
      | (with_reducible exact frisketref06_behind.mono _ _ _ _)
      | (with_reducible exact LeO.refl _)
      | (with_reducible exact LeO.none _)
      | (with_reducible refine LeO.ite ?_ ?_)
      | (with_reducible refine LeO.bind ?_ (fun _ => ?_))
      | exact ih0 _ _ _
      | exact ih1 _ _ _ _ _ _
      | exact ih2 _ _ _ _ _ _ _ _
      | exact ih3 _ _ _ _ _ _
      | exact ih4 _ _ _ _ _ _
      | exact ih5 _ _ _ _
      | exact ih6 _ _ _
      | exact frisketref06_Counts.mono _ _
      | exact frisketref06_behind.mono _ _ _ _
      | exact LeO.none _
      | refine LeO.ite ?_ ?_
      | refine LeO.bind ?_ (fun _ => ?_)
    · intro y0 y1 y2 y3 y4 y5
      unfold frisketref06_At.j1
      repeat' first
      | (with_reducible exact ih0 _ _ _)
      | (with_reducible exact ih1 _ _ _ _ _ _)
      | (with_reducible exact ih2 _ _ _ _ _ _ _ _)
      | (with_reducible exact ih3 _ _ _ _ _ _)
      | (with_reducible exact ih4 _ _ _ _ _ _)
      | (with_reducible exact ih5 _ _ _ _)
      | (with_reducible exact ih6 _ _ _)
      | (with_reducible exact frisketref06_Counts.mono _ _)
      | (with_reducible exact frisketref06_behind.mono _ _ _ _)
      | (with_reducible exact LeO.refl _)
      | (with_reducible exact LeO.none _)
      | (with_reducible refine LeO.ite ?_ ?_)
      | (with_reducible refine LeO.bind ?_ (fun _ => ?_))
      | exact ih0 _ _ _
      | exact ih1 _ _ _ _ _ _
      | exact ih2 _ _ _ _ _ _ _ _
      | exact ih3 _ _ _ _ _ _
      | exact ih4 _ _ _ _ _ _
      | exact ih5 _ _ _ _
      | exact ih6 _ _ _
      | exact frisketref06_Counts.mono _ _
      | exact frisketref06_behind.mono _ _ _ _
      | exact LeO.none _
      | refine LeO.ite ?_ ?_
      | refine LeO.bind ?_ (fun _ => ?_)
    · intro y0 y1 y2 y3 y4 y5 y6 y7
      unfold frisketref06_At.j2
      repeat' first
      | (with_reducible exact ih0 _ _ _)
      | (with_reducible exact ih1 _ _ _ _ _ _)
      | (with_reducible exact ih2 _ _ _ _ _ _ _ _)
      | (with_reducible exact ih3 _ _ _ _ _ _)
      | (with_reducible exact ih4 _ _ _ _ _ _)
      | (with_reducible exact ih5 _ _ _ _)
      | (with_reducible exact ih6 _ _ _)
      | (with_reducible exact frisketref06_Counts.mono _ _)
      | (with_reducible exact frisketref06_behind.mono _ _ _ _)
      | (with_reducible exact LeO.refl _)
      | (with_reducible exact LeO.none _)
      | (with_reducible refine LeO.ite ?_ ?_)
      | (with_reducible refine LeO.bind ?_ (fun _ => ?_))
      | exact ih0 _ _ _
      | exact ih1 _ _ _ _ _ _
      | exact ih2 _ _ _ _ _ _ _ _
      | exact ih3 _ _ _ _ _ _
      | exact ih4 _ _ _ _ _ _
      | exact ih5 _ _ _ _
      | exact ih6 _ _ _
      | exact frisketref06_Counts.mono _ _
      | exact frisketref06_behind.mono _ _ _ _
      | exact LeO.none _
      | refine LeO.ite ?_ ?_
      | refine LeO.bind ?_ (fun _ => ?_)
    · intro y0 y1 y2 y3 y4 y5
      unfold frisketref06_At.j3
      repeat' first
      | (with_reducible exact ih0 _ _ _)
      | (with_reducible exact ih1 _ _ _ _ _ _)
      | (with_reducible exact ih2 _ _ _ _ _ _ _ _)
      | (with_reducible exact ih3 _ _ _ _ _ _)
      | (with_reducible exact ih4 _ _ _ _ _ _)
      | (with_reducible exact ih5 _ _ _ _)
      | (with_reducible exact ih6 _ _ _)
      | (with_reducible exact frisketref06_Counts.mono _ _)
      | (with_reducible exact frisketref06_behind.mono _ _ _ _)
      | (with_reducible exact LeO.refl _)
      | (with_reducible exact LeO.none _)
      | (with_reducible refine LeO.ite ?_ ?_)
      | (with_reducible refine LeO.bind ?_ (fun _ => ?_))
      | exact ih0 _ _ _
      | exact ih1 _ _ _ _ _ _
      | exact ih2 _ _ _ _ _ _ _ _
      | exact ih3 _ _ _ _ _ _
      | exact ih4 _ _ _ _ _ _
      | exact ih5 _ _ _ _
      | exact ih6 _ _ _
      | exact frisketref06_Counts.mono _ _
      | exact frisketref06_behind.mono _ _ _ _
      | exact LeO.none _
      | refine LeO.ite ?_ ?_
      | refine LeO.bind ?_ (fun _ => ?_)
    · intro y0 y1 y2 y3 y4 y5
      unfold frisketref06_At.j4
      repeat' first
      | (with_reducible exact ih0 _ _ _)
      | (with_reducible exact ih1 _ _ _ _ _ _)
      | (with_reducible exact ih2 _ _ _ _ _ _ _ _)
      | (with_reducible exact ih3 _ _ _ _ _ _)
      | (with_reducible exact ih4 _ _ _ _ _ _)
      | (with_reducible exact ih5 _ _ _ _)
      | (with_reducible exact ih6 _ _ _)
      | (with_reducible exact frisketref06_Counts.mono _ _)
      | (with_reducible exact frisketref06_behind.mono _ _ _ _)
      | (with_reducible exact LeO.refl _)
      | (with_reducible exact LeO.none _)
      | (with_reducible refine LeO.ite ?_ ?_)
      | (with_reducible refine LeO.bind ?_ (fun _ => ?_))
      | exact ih0 _ _ _
      | exact ih1 _ _ _ _ _ _
      | exact ih2 _ _ _ _ _ _ _ _
      | exact ih3 _ _ _ _ _ _
      | exact ih4 _ _ _ _ _ _
      | exact ih5 _ _ _ _
      | exact ih6 _ _ _
      | exact frisketref06_Counts.mono _ _
      | exact frisketref06_behind.mono _ _ _ _
      | exact LeO.none _
      | refine LeO.ite ?_ ?_
      | refine LeO.bind ?_ (fun _ => ?_)
    · intro y0 y1 y2 y3
      unfold frisketref06_At.j5
      repeat' first
      | (with_reducible exact ih0 _ _ _)
      | (with_reducible exact ih1 _ _ _ _ _ _)
      | (with_reducible exact ih2 _ _ _ _ _ _ _ _)
      | (with_reducible exact ih3 _ _ _ _ _ _)
      | (with_reducible exact ih4 _ _ _ _ _ _)
      | (with_reducible exact ih5 _ _ _ _)
      | (with_reducible exact ih6 _ _ _)
      | (with_reducible exact frisketref06_Counts.mono _ _)
      | (with_reducible exact frisketref06_behind.mono _ _ _ _)
      | (with_reducible exact LeO.refl _)
      | (with_reducible exact LeO.none _)
      | (with_reducible refine LeO.ite ?_ ?_)
      | (with_reducible refine LeO.bind ?_ (fun _ => ?_))
      | exact ih0 _ _ _
      | exact ih1 _ _ _ _ _ _
      | exact ih2 _ _ _ _ _ _ _ _
      | exact ih3 _ _ _ _ _ _
      | exact ih4 _ _ _ _ _ _
      | exact ih5 _ _ _ _
      | exact ih6 _ _ _
      | exact frisketref06_Counts.mono _ _
      | exact frisketref06_behind.mono _ _ _ _
      | exact LeO.none _
      | refine LeO.ite ?_ ?_
      | refine LeO.bind ?_ (fun _ => ?_)
    · intro y0 y1 y2
      unfold frisketref06_At.j6
      repeat' first
      | (with_reducible exact ih0 _ _ _)
      | (with_reducible exact ih1 _ _ _ _ _ _)
      | (with_reducible exact ih2 _ _ _ _ _ _ _ _)
      | (with_reducible exact ih3 _ _ _ _ _ _)
      | (with_reducible exact ih4 _ _ _ _ _ _)
      | (with_reducible exact ih5 _ _ _ _)
      | (with_reducible exact ih6 _ _ _)
      | (with_reducible exact frisketref06_Counts.mono _ _)
      | (with_reducible exact frisketref06_behind.mono _ _ _ _)
      | (with_reducible exact LeO.refl _)
      | (with_reducible exact LeO.none _)
      | (with_reducible refine LeO.ite ?_ ?_)
      | (with_reducible refine LeO.bind ?_ (fun _ => ?_))
      | exact ih0 _ _ _
      | exact ih1 _ _ _ _ _ _
      | exact ih2 _ _ _ _ _ _ _ _
      | exact ih3 _ _ _ _ _ _
      | exact ih4 _ _ _ _ _ _
      | exact ih5 _ _ _ _
      | exact ih6 _ _ _
      | exact frisketref06_Counts.mono _ _
      | exact frisketref06_behind.mono _ _ _ _
      | exact LeO.none _
      | refine LeO.ite ?_ ?_
      | refine LeO.bind ?_ (fun _ => ?_)
theorem frisketref06_At.mono : ∀ a0 a1 k, LeO (frisketref06_At.f k a0 a1) (frisketref06_At.f (k + 1) a0 a1) := by
  intro a0 a1 k
  obtain ⟨ih0, ih1, ih2, ih3, ih4, ih5, ih6⟩ := frisketref06_At.mono_l k
  unfold frisketref06_At.f
  repeat' first
      | (with_reducible exact ih0 _ _ _)
      | (with_reducible exact ih1 _ _ _ _ _ _)
      | (with_reducible exact ih2 _ _ _ _ _ _ _ _)
      | (with_reducible exact ih3 _ _ _ _ _ _)
      | (with_reducible exact ih4 _ _ _ _ _ _)
      | (with_reducible exact ih5 _ _ _ _)
      | (with_reducible exact ih6 _ _ _)
      | (with_reducible exact frisketref06_Counts.mono _ _)
      | (with_reducible exact frisketref06_behind.mono _ _ _ _)
      | (with_reducible exact LeO.refl _)
      | (with_reducible exact LeO.none _)
      | (with_reducible refine LeO.ite ?_ ?_)
      | (with_reducible refine LeO.bind ?_ (fun _ => ?_))
      | exact ih0 _ _ _
      | exact ih1 _ _ _ _ _ _
      | exact ih2 _ _ _ _ _ _ _ _
      | exact ih3 _ _ _ _ _ _
      | exact ih4 _ _ _ _ _ _
      | exact ih5 _ _ _ _
      | exact ih6 _ _ _
      | exact frisketref06_Counts.mono _ _
      | exact frisketref06_behind.mono _ _ _ _
      | exact LeO.none _
      | refine LeO.ite ?_ ?_
      | refine LeO.bind ?_ (fun _ => ?_)
set_option maxHeartbeats 8000000 in
set_option maxRecDepth 100000 in
theorem frisketref06_At.calls (k : Nat) (A0 : Option Addr) (c0 : Nat) (l0 : List Int) (a1 : Int) (r : Int) (w : World) (hr0 : Kd.C (Kd.int .i64) w A0 l0.length l0) (hc0 : l0.length ≤ c0) (h : frisketref06_At.f k l0 a1 = some r) :
    Calls Try.prog 15 #[.slice A0 l0.length c0, .int .i64 a1] w fun e w' => e = .returned (.int .i64 r) ∧ Below w.heap.size w w' := by
  have HR0 := Aside0.mk hr0
  have HC0 := Aside0.mk hc0
  clear hr0 hc0
  have HB := Aside0.mk (Below.refl w.heap.size w)
  have H : (if a1 ≤ 0 then (frisketref06_At.j0 k l0 a1 true) else (frisketref06_At.j0 k l0 a1 (decide (a1 > (l0.length : Int))))) = some r := h
  clear h
  have HC3 := Aside0.mk H
  clear H
  go_enter Try.func15, Try.ntmps15
  go_upto_region 1 with (fail)
  go_cut [19] (fun v19 wc => ∃ (kq : Nat) (x19_2 : Bool), v19 = .bool x19_2 ∧ Aside0 (frisketref06_At.j0 kq l0 a1 x19_2 = some r) ∧ Aside0 (kq ≤ k) ∧ Aside0 (Below w.heap.size w wc))
  case first =>
    have H := HC3.out
    clear HC3
    by_cases c4 : a1 ≤ 0
    · rw [if_pos c4] at H
      have c4b0 : decide (a1 ≤ 0) = true := decide_eq_true c4
      clear c4
      (first | rw [c4b0] | (simp only [i64_w, i32_w]; rw [c4b0]) | skip)
      have H' := Aside0.mk H
      clear H
      go_wp2
      go_meet
      case rel => exact ⟨_, (true), (by first | rfl | (simp; done) | (simp [*]; done)), H', ⟨by first | omega | exact Nat.le_refl _⟩, ⟨by repeat (first | (with_reducible first | exact HB.out | apply below_alloc | apply pw_below_drewN | apply below_drew1) | exact HB.out)⟩⟩
    · rw [if_neg c4] at H
      have c4b0 : decide (a1 ≤ 0) = false := decide_eq_false c4
      clear c4
      (first | rw [c4b0] | (simp only [i64_w, i32_w]; rw [c4b0]) | skip)
      have H' := Aside0.mk H
      clear H
      go_wp2
      go_meet
      case rel => exact ⟨_, (decide (a1 > (l0.length : Int))), (by first | rfl | (simp; done) | (simp [*]; done)), H', ⟨by first | omega | exact Nat.le_refl _⟩, ⟨by repeat (first | (with_reducible first | exact HB.out | apply below_alloc | apply pw_below_drewN | apply below_drew1) | exact HB.out)⟩⟩
  case rest =>
    clear HC3
    try clear c1
    try clear p2
    try clear c4
    try clear c4b0
    obtain ⟨kq, x19_2, rfl, HA, HJ2, HB⟩ := hcut
    cases kq with
    | zero => exact absurd HA.out (by simp [frisketref06_At.j0])
    | succ kj2 =>
      have H := HA.out
      clear HA
      simp only [frisketref06_At.j0] at H
      by_cases c5 : x19_2 = true
      · subst c5
        have H1 : (some 0) = some r := by rw [if_pos rfl] at H; exact H
        clear H
        have H := H1
        clear H1
        obtain rfl := Option.some.inj H
        go_wp2
        go_ret
        exact ⟨by first | rfl | (simp [errW_none, errW_some] <;> rfl) | (simp [*, errW_none, errW_some] <;> rfl), by repeat (first | (with_reducible first | exact HB.out | apply below_alloc | apply pw_below_drewN | apply below_drew1) | exact HB.out)⟩
      · replace c5 := Bool.eq_false_iff.mpr c5
        subst c5
        have H1 : (if a1 = (l0.length : Int) then (some 2) else ((frisketref06_Counts.f kj2 l0).bind fun t142 => (if 0 ≤ (wrap64 (a1 - 1)) then (if (wrap64 (a1 - 1)) < (t142.length : Int) then (if 0 ≤ a1 then (if a1 < (t142.length : Int) then (if (rd t142 (wrap64 (a1 - 1))) = 8 then (frisketref06_At.j1 kj2 l0 a1 t142 (rd t142 (wrap64 (a1 - 1))) (rd t142 a1) true) else (if (rd t142 (wrap64 (a1 - 1))) = 9 then (frisketref06_At.j1 kj2 l0 a1 t142 (rd t142 (wrap64 (a1 - 1))) (rd t142 a1) true) else (frisketref06_At.j1 kj2 l0 a1 t142 (rd t142 (wrap64 (a1 - 1))) (rd t142 a1) ((rd t142 (wrap64 (a1 - 1))) == 11)))) else (none)) else (none)) else (none)) else (none)))) = some r := by rw [if_neg (show ¬ (false = true) by decide)] at H; exact H
        clear H
        have H := H1
        clear H1
        by_cases c6 : a1 = (l0.length : Int)
        · rw [if_pos c6] at H
          have c6b0 : (a1 == (l0.length : Int)) = true := beq_iff_eq.mpr c6
          have c6b1 : (a1 != (l0.length : Int)) = false := bne_eq_false_iff_eq.mpr c6
          clear c6
          obtain rfl := Option.some.inj H
          go_wp2
          go_ret
          exact ⟨by first | rfl | (simp [errW_none, errW_some] <;> rfl) | (simp [*, errW_none, errW_some] <;> rfl), by repeat (first | (with_reducible first | exact HB.out | apply below_alloc | apply pw_below_drewN | apply below_drew1) | exact HB.out)⟩
        · rw [if_neg c6] at H
          have c6b0 : (a1 == (l0.length : Int)) = false := beq_eq_false_iff_ne.mpr c6
          have c6b1 : (a1 != (l0.length : Int)) = true := bne_iff_ne.mpr c6
          replace H := Option.bind_eq_some_iff.mp H
          obtain ⟨t142, A70, H⟩ := H
          replace H : (if 0 ≤ (wrap64 (a1 - 1)) then (if (wrap64 (a1 - 1)) < (t142.length : Int) then (if 0 ≤ a1 then (if a1 < (t142.length : Int) then (if (rd t142 (wrap64 (a1 - 1))) = 8 then (frisketref06_At.j1 kj2 l0 a1 t142 (rd t142 (wrap64 (a1 - 1))) (rd t142 a1) true) else (if (rd t142 (wrap64 (a1 - 1))) = 9 then (frisketref06_At.j1 kj2 l0 a1 t142 (rd t142 (wrap64 (a1 - 1))) (rd t142 a1) true) else (frisketref06_At.j1 kj2 l0 a1 t142 (rd t142 (wrap64 (a1 - 1))) (rd t142 a1) ((rd t142 (wrap64 (a1 - 1))) == 11)))) else (none)) else (none)) else (none)) else (none)) = some r := H
          have A7 := Aside0.mk A70
          clear A70
          obtain ⟨ji8, hji8⟩ : ∃ j_ : Int, (wrap64 (a1 - 1)) = j_ := ⟨_, rfl⟩
          replace H : (if 0 ≤ (ji8) then (if (ji8) < (t142.length : Int) then (if 0 ≤ a1 then (if a1 < (t142.length : Int) then (if (rd t142 (ji8)) = 8 then (frisketref06_At.j1 kj2 l0 a1 t142 (rd t142 (ji8)) (rd t142 a1) true) else (if (rd t142 (ji8)) = 9 then (frisketref06_At.j1 kj2 l0 a1 t142 (rd t142 (ji8)) (rd t142 a1) true) else (frisketref06_At.j1 kj2 l0 a1 t142 (rd t142 (ji8)) (rd t142 a1) ((rd t142 (ji8)) == 11)))) else (none)) else (none)) else (none)) else (none)) = some r := by first | (rw [hji8] at H; exact H) | (simp only [hji8] at H ⊢; exact H)
          (try rw [hji8] at A7)
          have hji8w : (IntKind.i64.wrap (a1 - 1)) = ji8 := (i64_w _).trans hji8
          by_cases c9 : 0 ≤ (ji8)
          · rw [if_pos c9] at H
            have c9b0 : decide (0 ≤ (ji8)) = true := decide_eq_true c9
            clear c9
            by_cases c10 : (ji8) < (t142.length : Int)
            · rw [if_pos c10] at H
              have c10b0 : decide ((ji8) < (t142.length : Int)) = true := decide_eq_true c10
              clear c10
              by_cases c11 : 0 ≤ a1
              · rw [if_pos c11] at H
                have c11b0 : decide (0 ≤ a1) = true := decide_eq_true c11
                clear c11
                by_cases c12 : a1 < (t142.length : Int)
                · rw [if_pos c12] at H
                  have c12b0 : decide (a1 < (t142.length : Int)) = true := decide_eq_true c12
                  clear c12
                  have HC13 := Aside0.mk H
                  clear H
                  go_upto_region 8 with (first | ((with_reducible refine gate_callee (f := 13) rfl ?_); refine goesL_ (some 25) rfl rfl Try.func13 (by kernel_rfl) rfl #[.slice A0 l0.length c0] rfl (by (try simp only [List.map_toArray, List.map_cons, List.map_nil]); first | done | rfl | (simp only [List.length_drop, List.length_take]; rfl)) ?_; (with_reducible refine (frisketref06_Counts.calls kj2 _ _ l0 t142 _ ?side1 ?side2 A7.out).mono ?_); (case side1 => repeat (first | exact (Kd.C_below HR0.out HB.out) | (with_reducible refine Kd.C_alloc ?_ _) | (with_reducible refine Kd.C_drewN ?_ _) | (with_reducible refine Kd.C_drew ?_))); (case side2 => exact HC0.out); rintro e w14 ⟨v143, rfl, ho0, hb⟩; refine ⟨_, rfl, ?_⟩; have n0_ := Aside0.mk (Kd.R_lower ho0 (below_size (by repeat (first | (with_reducible first | exact HB.out | apply below_alloc | apply pw_below_drewN | apply below_drew1) | exact HB.out)))); have n1_ := Aside0.mk (below_step (by repeat (first | (with_reducible first | exact HB.out | apply below_alloc | apply pw_below_drewN | apply below_drew1) | exact HB.out)) hb); clear HB; have HO144 := n0_; have HB := n1_; clear n0_ n1_; (try clear hb); (try clear hb2); (try clear hk); (try clear hi); (try clear ho0); obtain ⟨Ao15, co15, eo15⟩ := Kd.R_slice HO144.out; subst eo15; have p145 : 0 ≤ ((ji8) : Int) := of_decide_eq_true (by first | (with_reducible assumption) | assumption); have q145 : (ji8) < (t142.length : Int) := of_decide_eq_true (by first | (with_reducible assumption) | assumption); obtain ⟨ad145, e145, hx145_0⟩ := Kd.at_int (Kd.R_reads' HO144.out).2.2 (ji8) p145 q145; cases e145; replace p145 := eq_true p145; replace q145 := eq_true q145; have p146 : 0 ≤ (a1 : Int) := of_decide_eq_true (by first | (with_reducible assumption) | assumption); have q146 : a1 < (t142.length : Int) := of_decide_eq_true (by first | (with_reducible assumption) | assumption); obtain ⟨ad146, e146, hx146_0⟩ := Kd.at_int (Kd.R_reads' HO144.out).2.2 a1 p146 q146; obtain rfl : ad145 = ad146 := (by injection e146); replace p146 := eq_true p146; replace q146 := eq_true q146))
                  (try simp only [Act.put, List.setIfInBounds_toArray, List.set_cons_zero, List.set_cons_succ])
                  go_cut [8] (fun v8 wc => ∃ (kq : Nat) (x8_12 : Bool), v8 = .bool x8_12 ∧ Aside0 (frisketref06_At.j1 kq l0 a1 t142 (rd t142 (ji8)) (rd t142 a1) x8_12 = some r) ∧ Aside0 (kq ≤ kj2) ∧ Aside0 (Kd.R (Kd.int .i64) 31 wc w.heap.size (fun _ => True) (.slice (some ad145) t142.length co15) t142) ∧ Aside0 (Below w.heap.size w wc))
                  case first =>
                    have H := HC13.out
                    clear HC13
                    by_cases c16 : (rd t142 (ji8)) = 8
                    · rw [if_pos c16] at H
                      have c16b0 : ((rd t142 (ji8)) == 8) = true := beq_iff_eq.mpr c16
                      have c16b1 : ((rd t142 (ji8)) != 8) = false := bne_eq_false_iff_eq.mpr c16
                      clear c16
                      (first | rw [c16b0] | (simp only [i64_w, i32_w]; rw [c16b0]) | skip)
                      have H' := Aside0.mk H
                      clear H
                      go_wp2
                      go_meet
                      case rel => exact ⟨_, (true), (by first | rfl | (simp; done) | (simp [*]; done)), H', ⟨by have := HJ2.out; first | omega | exact Nat.le_refl _⟩, ⟨by (with_reducible repeat (first | apply Kd.R_alloc | apply Kd.R_drewN | apply Kd.R_drew)); exact HO144.out⟩, ⟨by repeat (first | (with_reducible first | exact HB.out | apply below_alloc | apply pw_below_drewN | apply below_drew1) | exact HB.out)⟩⟩
                    · rw [if_neg c16] at H
                      have c16b0 : ((rd t142 (ji8)) == 8) = false := beq_eq_false_iff_ne.mpr c16
                      have c16b1 : ((rd t142 (ji8)) != 8) = true := bne_iff_ne.mpr c16
                      (first | rw [c16b0] | (simp only [i64_w, i32_w]; rw [c16b0]) | skip)
                      by_cases c17 : (rd t142 (ji8)) = 9
                      · rw [if_pos c17] at H
                        have c17b0 : ((rd t142 (ji8)) == 9) = true := beq_iff_eq.mpr c17
                        have c17b1 : ((rd t142 (ji8)) != 9) = false := bne_eq_false_iff_eq.mpr c17
                        clear c17
                        have H' := Aside0.mk H
                        clear H
                        go_wp2
                        go_meet
                        case rel => exact ⟨_, (true), (by first | rfl | (simp; done) | (simp [*]; done)), H', ⟨by have := HJ2.out; first | omega | exact Nat.le_refl _⟩, ⟨by (with_reducible repeat (first | apply Kd.R_alloc | apply Kd.R_drewN | apply Kd.R_drew)); exact HO144.out⟩, ⟨by repeat (first | (with_reducible first | exact HB.out | apply below_alloc | apply pw_below_drewN | apply below_drew1) | exact HB.out)⟩⟩
                      · rw [if_neg c17] at H
                        have c17b0 : ((rd t142 (ji8)) == 9) = false := beq_eq_false_iff_ne.mpr c17
                        have c17b1 : ((rd t142 (ji8)) != 9) = true := bne_iff_ne.mpr c17
                        have H' := Aside0.mk H
                        clear H
                        go_wp2
                        go_meet
                        case rel => exact ⟨_, (((rd t142 (ji8)) == 11)), (by first | rfl | (simp; done) | (simp only [← hji8] <;> (first | rfl | simp)) | (simp [*]; done)), H', ⟨by have := HJ2.out; first | omega | exact Nat.le_refl _⟩, ⟨by (with_reducible repeat (first | apply Kd.R_alloc | apply Kd.R_drewN | apply Kd.R_drew)); exact HO144.out⟩, ⟨by repeat (first | (with_reducible first | exact HB.out | apply below_alloc | apply pw_below_drewN | apply below_drew1) | exact HB.out)⟩⟩
                  case rest =>
                    clear HC13
                    try clear c1
                    try clear p1
                    try clear q1
                    try clear hx1
                    try clear p2
                    try clear c4
                    try clear c4b0
                    try clear c5
                    try clear c6
                    try clear c6b0
                    try clear c6b1
                    try clear p6
                    try clear c9
                    try clear c9b0
                    try clear c10
                    try clear c10b0
                    try clear c11
                    try clear c11b0
                    try clear c12
                    try clear c12b0
                    try clear c13
                    try clear p14
                    try clear q14
                    try clear hx14
                    try clear c15
                    try clear c16
                    try clear c16b0
                    try clear c16b1
                    try clear c17
                    try clear c17b0
                    try clear c17b1
                    try clear hx145_0
                    try clear hx146_0
                    try clear p145
                    try clear p146
                    try clear p2
                    try clear q145
                    try clear q146
                    obtain ⟨kq, x8_12, rfl, HA, HJ12, HO_5, HB⟩ := hcut
                    cases kq with
                    | zero => exact absurd HA.out (by simp [frisketref06_At.j1])
                    | succ kj12 =>
                      have H := HA.out
                      clear HA
                      simp only [frisketref06_At.j1] at H
                      simp only [hji8] at H
                      replace H := Option.bind_eq_some_iff.mp H
                      obtain ⟨t147, A180, H⟩ := H
                      replace H : ((frisketref06_behind.f kj12 t142 ji8 3).bind fun t148 => ((frisketref06_word.f (rd t142 (ji8))).bind fun t149 => (if t149 = true then ((frisketref06_word.f (rd t142 a1)).bind fun t150 => (frisketref06_At.j2 kj12 l0 a1 (rd t142 (ji8)) (rd t142 a1) x8_12 t147 t148 t150)) else (frisketref06_At.j2 kj12 l0 a1 (rd t142 (ji8)) (rd t142 a1) x8_12 t147 t148 false)))) = some r := H
                      have A18 := Aside0.mk A180
                      clear A180
                      replace H := Option.bind_eq_some_iff.mp H
                      obtain ⟨t148, A190, H⟩ := H
                      replace H : ((frisketref06_word.f (rd t142 (ji8))).bind fun t149 => (if t149 = true then ((frisketref06_word.f (rd t142 a1)).bind fun t150 => (frisketref06_At.j2 kj12 l0 a1 (rd t142 (ji8)) (rd t142 a1) x8_12 t147 t148 t150)) else (frisketref06_At.j2 kj12 l0 a1 (rd t142 (ji8)) (rd t142 a1) x8_12 t147 t148 false))) = some r := H
                      have A19 := Aside0.mk A190
                      clear A190
                      have HC20 := Aside0.mk H
                      clear H
                      go_upto_region 11 with (first | ((with_reducible refine gate_callee (f := 21) rfl ?_); refine goesL_ (some 48) rfl rfl Try.func21 (by kernel_rfl) rfl #[.slice (some ad145) t142.length co15, .int .i64 ji8, .int .i64 9] rfl (by (try simp only [List.map_toArray, List.map_cons, List.map_nil]); first | done | rfl | (simp only [List.length_drop, List.length_take]; rfl)) ?_; (with_reducible refine (frisketref06_behind.calls kj12 _ _ t142 ji8 9 t147 _ ?side1 ?side2 A18.out).mono ?_); (case side1 => repeat (first | exact (Kd.R_reads' HO_5.out).2.2 | (with_reducible refine Kd.C_alloc ?_ _) | (with_reducible refine Kd.C_drewN ?_ _) | (with_reducible refine Kd.C_drew ?_))); (case side2 => exact (Kd.R_reads' HO_5.out).2.1); rintro e w' ⟨rfl, ⟨nd, rfl⟩⟩; refine ⟨_, rfl, ?_⟩) | ((with_reducible refine gate_callee (f := 21) rfl ?_); refine goesL_ (some 52) rfl rfl Try.func21 (by kernel_rfl) rfl #[.slice (some ad145) t142.length co15, .int .i64 ji8, .int .i64 3] rfl (by (try simp only [List.map_toArray, List.map_cons, List.map_nil]); first | done | rfl | (simp only [List.length_drop, List.length_take]; rfl)) ?_; (with_reducible refine (frisketref06_behind.calls kj12 _ _ t142 ji8 3 t148 _ ?side1 ?side2 A19.out).mono ?_); (case side1 => repeat (first | exact (Kd.R_reads' HO_5.out).2.2 | (with_reducible refine Kd.C_alloc ?_ _) | (with_reducible refine Kd.C_drewN ?_ _) | (with_reducible refine Kd.C_drew ?_))); (case side2 => exact (Kd.R_reads' HO_5.out).2.1); rintro e w' ⟨rfl, ⟨nd, rfl⟩⟩; refine ⟨_, rfl, ?_⟩))
                      (try simp only [Act.put, List.setIfInBounds_toArray, List.set_cons_zero, List.set_cons_succ])
                      go_cut [11] (fun v11 wc => ∃ (kq : Nat) (x11_19 : Bool), v11 = .bool x11_19 ∧ Aside0 (frisketref06_At.j2 kq l0 a1 (rd t142 (ji8)) (rd t142 a1) x8_12 t147 t148 x11_19 = some r) ∧ Aside0 (kq ≤ kj12) ∧ Aside0 (Below w.heap.size w wc))
                      case first =>
                        have H := HC20.out
                        clear HC20
                        replace H := Option.bind_eq_some_iff.mp H
                        obtain ⟨t149, A210, H⟩ := H
                        replace H : (if t149 = true then ((frisketref06_word.f (rd t142 a1)).bind fun t150 => (frisketref06_At.j2 kj12 l0 a1 (rd t142 (ji8)) (rd t142 a1) x8_12 t147 t148 t150)) else (frisketref06_At.j2 kj12 l0 a1 (rd t142 (ji8)) (rd t142 a1) x8_12 t147 t148 false)) = some r := H
                        have A21 := Aside0.mk A210
                        clear A210
                        by_cases c22 : t149 = true
                        · subst c22
                          have H1 : ((frisketref06_word.f (rd t142 a1)).bind fun t150 => (frisketref06_At.j2 kj12 l0 a1 (rd t142 (ji8)) (rd t142 a1) x8_12 t147 t148 t150)) = some r := by rw [if_pos rfl] at H; exact H
                          clear H
                          have H := H1
                          clear H1
                          replace H := Option.bind_eq_some_iff.mp H
                          obtain ⟨t150, A230, H⟩ := H
                          replace H : (frisketref06_At.j2 kj12 l0 a1 (rd t142 (ji8)) (rd t142 a1) x8_12 t147 t148 t150) = some r := H
                          have A23 := Aside0.mk A230
                          clear A230
                          have H' := Aside0.mk H
                          clear H
                          go_wp2_with (first | ((with_reducible refine gate_callee (f := 22) rfl ?_); refine goesL_ (some 54) rfl rfl Try.func22 (by kernel_rfl) rfl #[.int .i64 (rd t142 (ji8))] rfl (by (try simp only [List.map_toArray, List.map_cons, List.map_nil]); first | done | (simp only [hji8]; rfl) | rfl | (simp only [List.length_drop, List.length_take]; rfl)) ?_; (with_reducible refine (frisketref06_word.calls (rd t142 (ji8)) true _ A21.out).mono ?_); rintro e w' ⟨rfl, ⟨nd, rfl⟩⟩; refine ⟨_, rfl, ?_⟩) | (go_at_call 22; (with_reducible refine (frisketref06_word.calls (rd t142 a1) t150 _ A23.out).mono ?_); rintro e w' ⟨rfl, ⟨nd, rfl⟩⟩))
                          go_meet
                          case rel => exact ⟨_, (t150), (by first | rfl | (simp; done) | (simp [*]; done)), H', ⟨by have := HJ2.out; have := HJ12.out; first | omega | exact Nat.le_refl _⟩, ⟨by repeat (first | (with_reducible first | exact HB.out | apply below_alloc | apply pw_below_drewN | apply below_drew1) | exact HB.out)⟩⟩
                        · replace c22 := Bool.eq_false_iff.mpr c22
                          subst c22
                          have H1 : (frisketref06_At.j2 kj12 l0 a1 (rd t142 (ji8)) (rd t142 a1) x8_12 t147 t148 false) = some r := by rw [if_neg (show ¬ (false = true) by decide)] at H; exact H
                          clear H
                          have H := H1
                          clear H1
                          have H' := Aside0.mk H
                          clear H
                          go_wp2_with (first | ((with_reducible refine gate_callee (f := 22) rfl ?_); refine goesL_ (some 54) rfl rfl Try.func22 (by kernel_rfl) rfl #[.int .i64 (rd t142 (ji8))] rfl (by (try simp only [List.map_toArray, List.map_cons, List.map_nil]); first | done | (simp only [hji8]; rfl) | rfl | (simp only [List.length_drop, List.length_take]; rfl)) ?_; (with_reducible refine (frisketref06_word.calls (rd t142 (ji8)) false _ A21.out).mono ?_); rintro e w' ⟨rfl, ⟨nd, rfl⟩⟩; refine ⟨_, rfl, ?_⟩))
                          go_meet
                          case rel => exact ⟨_, (false), (by first | rfl | (simp; done) | (simp [*]; done)), H', ⟨by have := HJ2.out; have := HJ12.out; first | omega | exact Nat.le_refl _⟩, ⟨by repeat (first | (with_reducible first | exact HB.out | apply below_alloc | apply pw_below_drewN | apply below_drew1) | exact HB.out)⟩⟩
                      case rest =>
                        clear HC20
                        try clear c1
                        try clear p1
                        try clear q1
                        try clear hx1
                        try clear c2
                        try clear p2
                        try clear c4
                        try clear c4b0
                        try clear c5
                        try clear c6
                        try clear c6b0
                        try clear c6b1
                        try clear p6
                        try clear c9
                        try clear c9b0
                        try clear c10
                        try clear c10b0
                        try clear c11
                        try clear c11b0
                        try clear c12
                        try clear c12b0
                        try clear c13
                        try clear p14
                        try clear q14
                        try clear hx14
                        try clear c15
                        try clear c16
                        try clear c16b0
                        try clear c16b1
                        try clear c17
                        try clear c17b0
                        try clear c17b1
                        try clear c21
                        try clear c22
                        try clear hx145_0
                        try clear hx146_0
                        try clear p1
                        try clear p14
                        try clear p145
                        try clear p146
                        try clear p2
                        try clear p6
                        try clear q1
                        try clear q14
                        try clear q145
                        try clear q146
                        obtain ⟨kq, x11_19, rfl, HA, HJ19, HB⟩ := hcut
                        cases kq with
                        | zero => exact absurd HA.out (by simp [frisketref06_At.j2])
                        | succ kj19 =>
                          have H := HA.out
                          clear HA
                          simp only [frisketref06_At.j2] at H
                          have HC24 := Aside0.mk H
                          clear H
                          go_upto_region 12 with (fail)
                          go_cut [59] (fun v59 wc => ∃ (kq : Nat) (x59_23 : Bool), v59 = .bool x59_23 ∧ Aside0 (frisketref06_At.j3 kq (rd t142 (ji8)) (rd t142 a1) t147 t148 x11_19 x59_23 = some r) ∧ Aside0 (kq ≤ kj19) ∧ Aside0 (Below w.heap.size w wc))
                          case first =>
                            have H := HC24.out
                            clear HC24
                            by_cases c25 : 0 ≤ a1
                            · rw [if_pos c25] at H
                              have c25b0 : decide (0 ≤ a1) = true := decide_eq_true c25
                              clear c25
                              (first | rw [c25b0] | (simp only [i64_w, i32_w]; rw [c25b0]) | skip)
                              by_cases c26 : a1 < (l0.length : Int)
                              · rw [if_pos c26] at H
                                have c26b0 : decide (a1 < (l0.length : Int)) = true := decide_eq_true c26
                                clear c26
                                by_cases c27 : (rd l0 a1) = 10
                                · rw [if_pos c27] at H
                                  have c27b0 : ((rd l0 a1) == 10) = true := beq_iff_eq.mpr c27
                                  have c27b1 : ((rd l0 a1) != 10) = false := bne_eq_false_iff_eq.mpr c27
                                  clear c27
                                  have H' := Aside0.mk H
                                  clear H
                                  have p151 : 0 ≤ (a1 : Int) := of_decide_eq_true (by first | (with_reducible assumption) | assumption)
                                  have q151 : a1 < (l0.length : Int) := of_decide_eq_true (by first | (with_reducible assumption) | assumption)
                                  obtain ⟨ad151, e151, hx151_0⟩ := Kd.at_int HR0.out a1 p151 q151
                                  cases e151
                                  replace hx151_0 := (HB.out.cell (World.block_lt_of_cell? w _ hx151_0)).trans hx151_0
                                  replace p151 := eq_true p151
                                  replace q151 := eq_true q151
                                  go_wp2
                                  go_meet
                                  case rel => exact ⟨_, (!x8_12), (by first | rfl | (simp; done) | (simp [*]; done)), H', ⟨by have := HJ2.out; have := HJ12.out; have := HJ19.out; first | omega | exact Nat.le_refl _⟩, ⟨by repeat (first | (with_reducible first | exact HB.out | apply below_alloc | apply pw_below_drewN | apply below_drew1) | exact HB.out)⟩⟩
                                · rw [if_neg c27] at H
                                  have c27b0 : ((rd l0 a1) == 10) = false := beq_eq_false_iff_ne.mpr c27
                                  have c27b1 : ((rd l0 a1) != 10) = true := bne_iff_ne.mpr c27
                                  have H' := Aside0.mk H
                                  clear H
                                  have p151 : 0 ≤ (a1 : Int) := of_decide_eq_true (by first | (with_reducible assumption) | assumption)
                                  have q151 : a1 < (l0.length : Int) := of_decide_eq_true (by first | (with_reducible assumption) | assumption)
                                  obtain ⟨ad151, e151, hx151_0⟩ := Kd.at_int HR0.out a1 p151 q151
                                  cases e151
                                  replace hx151_0 := (HB.out.cell (World.block_lt_of_cell? w _ hx151_0)).trans hx151_0
                                  replace p151 := eq_true p151
                                  replace q151 := eq_true q151
                                  go_wp2
                                  go_meet
                                  case rel => exact ⟨_, (false), (by first | rfl | (simp; done) | (simp [*]; done)), H', ⟨by have := HJ2.out; have := HJ12.out; have := HJ19.out; first | omega | exact Nat.le_refl _⟩, ⟨by repeat (first | (with_reducible first | exact HB.out | apply below_alloc | apply pw_below_drewN | apply below_drew1) | exact HB.out)⟩⟩
                              · rw [if_neg c26] at H
                                exact absurd H (by simp)
                            · rw [if_neg c25] at H
                              exact absurd H (by simp)
                          case rest =>
                            clear HC24
                            try clear c1
                            try clear p1
                            try clear q1
                            try clear hx1
                            try clear c2
                            try clear p2
                            try clear c4
                            try clear c4b0
                            try clear c5
                            try clear c6
                            try clear c6b0
                            try clear c6b1
                            try clear p6
                            try clear c9
                            try clear c9b0
                            try clear c10
                            try clear c10b0
                            try clear c11
                            try clear c11b0
                            try clear c12
                            try clear c12b0
                            try clear c13
                            try clear p14
                            try clear q14
                            try clear hx14
                            try clear c15
                            try clear p15
                            try clear q15
                            try clear hx15
                            try clear c16
                            try clear c16b0
                            try clear c16b1
                            try clear c17
                            try clear c17b0
                            try clear c17b1
                            try clear c21
                            try clear c22
                            try clear c25
                            try clear c25b0
                            try clear c26
                            try clear c26b0
                            try clear c27
                            try clear c27b0
                            try clear c27b1
                            try clear hx145_0
                            try clear hx146_0
                            try clear hx151_0
                            try clear p1
                            try clear p14
                            try clear p145
                            try clear p146
                            try clear p151
                            try clear p2
                            try clear p6
                            try clear q1
                            try clear q14
                            try clear q145
                            try clear q146
                            try clear q151
                            obtain ⟨kq, x59_23, rfl, HA, HJ23, HB⟩ := hcut
                            cases kq with
                            | zero => exact absurd HA.out (by simp [frisketref06_At.j3])
                            | succ kj23 =>
                              have H := HA.out
                              clear HA
                              simp only [frisketref06_At.j3] at H
                              by_cases c28 : x59_23 = true
                              · subst c28
                                have H1 : (some 0) = some r := by rw [if_pos rfl] at H; exact H
                                clear H
                                have H := H1
                                clear H1
                                obtain rfl := Option.some.inj H
                                go_wp2
                                go_ret
                                exact ⟨by first | rfl | (simp [errW_none, errW_some] <;> rfl) | (simp only [← hji8]; first | rfl | (simp [errW_none, errW_some] <;> rfl)) | (simp [*, errW_none, errW_some] <;> rfl), by repeat (first | (with_reducible first | exact HB.out | apply below_alloc | apply pw_below_drewN | apply below_drew1) | exact HB.out)⟩
                              · replace c28 := Bool.eq_false_iff.mpr c28
                                subst c28
                                have H1 : (if (rd t142 (ji8)) = 11 then (some 2) else (if (rd t142 a1) = 11 then (frisketref06_At.j4 kj23 (rd t142 (ji8)) (rd t142 a1) t147 t148 x11_19 true) else (if (rd t142 a1) = 8 then (frisketref06_At.j4 kj23 (rd t142 (ji8)) (rd t142 a1) t147 t148 x11_19 true) else (frisketref06_At.j4 kj23 (rd t142 (ji8)) (rd t142 a1) t147 t148 x11_19 ((rd t142 a1) == 9))))) = some r := by rw [if_neg (show ¬ (false = true) by decide)] at H; exact H
                                clear H
                                have H := H1
                                clear H1
                                by_cases c29 : (rd t142 (ji8)) = 11
                                · rw [if_pos c29] at H
                                  have c29b0 : ((rd t142 (ji8)) == 11) = true := beq_iff_eq.mpr c29
                                  have c29b1 : ((rd t142 (ji8)) != 11) = false := bne_eq_false_iff_eq.mpr c29
                                  clear c29
                                  obtain rfl := Option.some.inj H
                                  go_wp2
                                  go_ret
                                  exact ⟨by first | rfl | (simp [errW_none, errW_some] <;> rfl) | (simp only [← hji8]; first | rfl | (simp [errW_none, errW_some] <;> rfl)) | (simp [*, errW_none, errW_some] <;> rfl), by repeat (first | (with_reducible first | exact HB.out | apply below_alloc | apply pw_below_drewN | apply below_drew1) | exact HB.out)⟩
                                · rw [if_neg c29] at H
                                  have c29b0 : ((rd t142 (ji8)) == 11) = false := beq_eq_false_iff_ne.mpr c29
                                  have c29b1 : ((rd t142 (ji8)) != 11) = true := bne_iff_ne.mpr c29
                                  have HC30 := Aside0.mk H
                                  clear H
                                  go_upto_region 16 with (fail)
                                  go_cut [72] (fun v72 wc => ∃ (kq : Nat) (x72_29 : Bool), v72 = .bool x72_29 ∧ Aside0 (frisketref06_At.j4 kq (rd t142 (ji8)) (rd t142 a1) t147 t148 x11_19 x72_29 = some r) ∧ Aside0 (kq ≤ kj23) ∧ Aside0 (Below w.heap.size w wc))
                                  case first =>
                                    have H := HC30.out
                                    clear HC30
                                    by_cases c31 : (rd t142 a1) = 11
                                    · rw [if_pos c31] at H
                                      have c31b0 : ((rd t142 a1) == 11) = true := beq_iff_eq.mpr c31
                                      have c31b1 : ((rd t142 a1) != 11) = false := bne_eq_false_iff_eq.mpr c31
                                      clear c31
                                      (first | rw [c31b0] | (simp only [i64_w, i32_w]; rw [c31b0]) | skip)
                                      have H' := Aside0.mk H
                                      clear H
                                      go_wp2
                                      go_meet
                                      case rel => exact ⟨_, (true), (by first | rfl | (simp; done) | (simp [*]; done)), H', ⟨by have := HJ2.out; have := HJ12.out; have := HJ19.out; have := HJ23.out; first | omega | exact Nat.le_refl _⟩, ⟨by repeat (first | (with_reducible first | exact HB.out | apply below_alloc | apply pw_below_drewN | apply below_drew1) | exact HB.out)⟩⟩
                                    · rw [if_neg c31] at H
                                      have c31b0 : ((rd t142 a1) == 11) = false := beq_eq_false_iff_ne.mpr c31
                                      have c31b1 : ((rd t142 a1) != 11) = true := bne_iff_ne.mpr c31
                                      (first | rw [c31b0] | (simp only [i64_w, i32_w]; rw [c31b0]) | skip)
                                      by_cases c32 : (rd t142 a1) = 8
                                      · rw [if_pos c32] at H
                                        have c32b0 : ((rd t142 a1) == 8) = true := beq_iff_eq.mpr c32
                                        have c32b1 : ((rd t142 a1) != 8) = false := bne_eq_false_iff_eq.mpr c32
                                        clear c32
                                        have H' := Aside0.mk H
                                        clear H
                                        go_wp2
                                        go_meet
                                        case rel => exact ⟨_, (true), (by first | rfl | (simp; done) | (simp [*]; done)), H', ⟨by have := HJ2.out; have := HJ12.out; have := HJ19.out; have := HJ23.out; first | omega | exact Nat.le_refl _⟩, ⟨by repeat (first | (with_reducible first | exact HB.out | apply below_alloc | apply pw_below_drewN | apply below_drew1) | exact HB.out)⟩⟩
                                      · rw [if_neg c32] at H
                                        have c32b0 : ((rd t142 a1) == 8) = false := beq_eq_false_iff_ne.mpr c32
                                        have c32b1 : ((rd t142 a1) != 8) = true := bne_iff_ne.mpr c32
                                        have H' := Aside0.mk H
                                        clear H
                                        go_wp2
                                        go_meet
                                        case rel => exact ⟨_, (((rd t142 a1) == 9)), (by first | rfl | (simp; done) | (simp [*]; done)), H', ⟨by have := HJ2.out; have := HJ12.out; have := HJ19.out; have := HJ23.out; first | omega | exact Nat.le_refl _⟩, ⟨by repeat (first | (with_reducible first | exact HB.out | apply below_alloc | apply pw_below_drewN | apply below_drew1) | exact HB.out)⟩⟩
                                  case rest =>
                                    clear HC30
                                    try clear c1
                                    try clear p1
                                    try clear q1
                                    try clear hx1
                                    try clear c2
                                    try clear p2
                                    try clear c3
                                    try clear c4
                                    try clear c4b0
                                    try clear c5
                                    try clear c6
                                    try clear c6b0
                                    try clear c6b1
                                    try clear p6
                                    try clear c9
                                    try clear c9b0
                                    try clear c10
                                    try clear c10b0
                                    try clear c11
                                    try clear c11b0
                                    try clear c12
                                    try clear c12b0
                                    try clear c13
                                    try clear p14
                                    try clear q14
                                    try clear hx14
                                    try clear c15
                                    try clear p15
                                    try clear q15
                                    try clear hx15
                                    try clear c16
                                    try clear c16b0
                                    try clear c16b1
                                    try clear c17
                                    try clear c17b0
                                    try clear c17b1
                                    try clear c21
                                    try clear c22
                                    try clear c25
                                    try clear c25b0
                                    try clear c26
                                    try clear c26b0
                                    try clear c27
                                    try clear c27b0
                                    try clear c27b1
                                    try clear c28
                                    try clear c29
                                    try clear c29b0
                                    try clear c29b1
                                    try clear c31
                                    try clear c31b0
                                    try clear c31b1
                                    try clear c32
                                    try clear c32b0
                                    try clear c32b1
                                    try clear hx145_0
                                    try clear hx146_0
                                    try clear hx151_0
                                    try clear p1
                                    try clear p14
                                    try clear p145
                                    try clear p146
                                    try clear p15
                                    try clear p151
                                    try clear p2
                                    try clear p6
                                    try clear q1
                                    try clear q14
                                    try clear q145
                                    try clear q146
                                    try clear q15
                                    try clear q151
                                    obtain ⟨kq, x72_29, rfl, HA, HJ29, HB⟩ := hcut
                                    cases kq with
                                    | zero => exact absurd HA.out (by simp [frisketref06_At.j4])
                                    | succ kj29 =>
                                      have H := HA.out
                                      clear HA
                                      simp only [frisketref06_At.j4] at H
                                      by_cases c33 : x72_29 = true
                                      · subst c33
                                        have H1 : (some 0) = some r := by rw [if_pos rfl] at H; exact H
                                        clear H
                                        have H := H1
                                        clear H1
                                        obtain rfl := Option.some.inj H
                                        go_wp2
                                        go_ret
                                        exact ⟨by first | rfl | (simp [errW_none, errW_some] <;> rfl) | (simp only [← hji8]; first | rfl | (simp [errW_none, errW_some] <;> rfl)) | (simp [*, errW_none, errW_some] <;> rfl), by repeat (first | (with_reducible first | exact HB.out | apply below_alloc | apply pw_below_drewN | apply below_drew1) | exact HB.out)⟩
                                      · replace c33 := Bool.eq_false_iff.mpr c33
                                        subst c33
                                        have H1 : (if t147 = true then (some 1) else (if (rd t142 a1) = 4 then (frisketref06_At.j5 kj29 (rd t142 (ji8)) (rd t142 a1) x11_19 true) else (frisketref06_At.j5 kj29 (rd t142 (ji8)) (rd t142 a1) x11_19 t148))) = some r := by rw [if_neg (show ¬ (false = true) by decide)] at H; exact H
                                        clear H
                                        have H := H1
                                        clear H1
                                        by_cases c34 : t147 = true
                                        · subst c34
                                          have H1 : (some 1) = some r := by rw [if_pos rfl] at H; exact H
                                          clear H
                                          have H := H1
                                          clear H1
                                          obtain rfl := Option.some.inj H
                                          go_wp2
                                          go_ret
                                          exact ⟨by first | rfl | (simp [errW_none, errW_some] <;> rfl) | (simp only [← hji8]; first | rfl | (simp [errW_none, errW_some] <;> rfl)) | (simp [*, errW_none, errW_some] <;> rfl), by repeat (first | (with_reducible first | exact HB.out | apply below_alloc | apply pw_below_drewN | apply below_drew1) | exact HB.out)⟩
                                        · replace c34 := Bool.eq_false_iff.mpr c34
                                          subst c34
                                          have H1 : (if (rd t142 a1) = 4 then (frisketref06_At.j5 kj29 (rd t142 (ji8)) (rd t142 a1) x11_19 true) else (frisketref06_At.j5 kj29 (rd t142 (ji8)) (rd t142 a1) x11_19 t148)) = some r := by rw [if_neg (show ¬ (false = true) by decide)] at H; exact H
                                          clear H
                                          have H := H1
                                          clear H1
                                          have HC35 := Aside0.mk H
                                          clear H
                                          go_upto_region 20 with (fail)
                                          go_cut [85] (fun v85 wc => ∃ (kq : Nat) (x85_34 : Bool), v85 = .bool x85_34 ∧ Aside0 (frisketref06_At.j5 kq (rd t142 (ji8)) (rd t142 a1) x11_19 x85_34 = some r) ∧ Aside0 (kq ≤ kj29) ∧ Aside0 (Below w.heap.size w wc))
                                          case first =>
                                            have H := HC35.out
                                            clear HC35
                                            by_cases c36 : (rd t142 a1) = 4
                                            · rw [if_pos c36] at H
                                              have c36b0 : ((rd t142 a1) == 4) = true := beq_iff_eq.mpr c36
                                              have c36b1 : ((rd t142 a1) != 4) = false := bne_eq_false_iff_eq.mpr c36
                                              clear c36
                                              (first | rw [c36b0] | (simp only [i64_w, i32_w]; rw [c36b0]) | skip)
                                              have H' := Aside0.mk H
                                              clear H
                                              go_wp2
                                              go_meet
                                              case rel => exact ⟨_, (true), (by first | rfl | (simp; done) | (simp [*]; done)), H', ⟨by have := HJ2.out; have := HJ12.out; have := HJ19.out; have := HJ23.out; have := HJ29.out; first | omega | exact Nat.le_refl _⟩, ⟨by repeat (first | (with_reducible first | exact HB.out | apply below_alloc | apply pw_below_drewN | apply below_drew1) | exact HB.out)⟩⟩
                                            · rw [if_neg c36] at H
                                              have c36b0 : ((rd t142 a1) == 4) = false := beq_eq_false_iff_ne.mpr c36
                                              have c36b1 : ((rd t142 a1) != 4) = true := bne_iff_ne.mpr c36
                                              (first | rw [c36b0] | (simp only [i64_w, i32_w]; rw [c36b0]) | skip)
                                              have H' := Aside0.mk H
                                              clear H
                                              go_wp2
                                              go_meet
                                              case rel => exact ⟨_, (t148), (by first | rfl | (simp; done) | (simp [*]; done)), H', ⟨by have := HJ2.out; have := HJ12.out; have := HJ19.out; have := HJ23.out; have := HJ29.out; first | omega | exact Nat.le_refl _⟩, ⟨by repeat (first | (with_reducible first | exact HB.out | apply below_alloc | apply pw_below_drewN | apply below_drew1) | exact HB.out)⟩⟩
                                          case rest =>
                                            clear HC35
                                            try clear c1
                                            try clear p1
                                            try clear q1
                                            try clear hx1
                                            try clear c2
                                            try clear p2
                                            try clear c3
                                            try clear c4
                                            try clear c4b0
                                            try clear c5
                                            try clear c6
                                            try clear c6b0
                                            try clear c6b1
                                            try clear p6
                                            try clear c9
                                            try clear c9b0
                                            try clear c10
                                            try clear c10b0
                                            try clear c11
                                            try clear c11b0
                                            try clear c12
                                            try clear c12b0
                                            try clear c13
                                            try clear p14
                                            try clear q14
                                            try clear hx14
                                            try clear c15
                                            try clear p15
                                            try clear q15
                                            try clear hx15
                                            try clear c16
                                            try clear c16b0
                                            try clear c16b1
                                            try clear c17
                                            try clear c17b0
                                            try clear c17b1
                                            try clear c21
                                            try clear c22
                                            try clear c25
                                            try clear c25b0
                                            try clear c26
                                            try clear c26b0
                                            try clear c27
                                            try clear c27b0
                                            try clear c27b1
                                            try clear c28
                                            try clear c29
                                            try clear c29b0
                                            try clear c29b1
                                            try clear c31
                                            try clear c31b0
                                            try clear c31b1
                                            try clear c32
                                            try clear c32b0
                                            try clear c32b1
                                            try clear c33
                                            try clear c34
                                            try clear c36
                                            try clear c36b0
                                            try clear c36b1
                                            try clear hx145_0
                                            try clear hx146_0
                                            try clear hx151_0
                                            try clear p1
                                            try clear p14
                                            try clear p145
                                            try clear p146
                                            try clear p15
                                            try clear p151
                                            try clear p2
                                            try clear p6
                                            try clear q1
                                            try clear q14
                                            try clear q145
                                            try clear q146
                                            try clear q15
                                            try clear q151
                                            obtain ⟨kq, x85_34, rfl, HA, HJ34, HB⟩ := hcut
                                            cases kq with
                                            | zero => exact absurd HA.out (by simp [frisketref06_At.j5])
                                            | succ kj34 =>
                                              have H := HA.out
                                              clear HA
                                              simp only [frisketref06_At.j5] at H
                                              by_cases c37 : x85_34 = true
                                              · subst c37
                                                have H1 : (some 0) = some r := by rw [if_pos rfl] at H; exact H
                                                clear H
                                                have H := H1
                                                clear H1
                                                obtain rfl := Option.some.inj H
                                                go_wp2
                                                go_ret
                                                exact ⟨by first | rfl | (simp [errW_none, errW_some] <;> rfl) | (simp only [← hji8]; first | rfl | (simp [errW_none, errW_some] <;> rfl)) | (simp [*, errW_none, errW_some] <;> rfl), by repeat (first | (with_reducible first | exact HB.out | apply below_alloc | apply pw_below_drewN | apply below_drew1) | exact HB.out)⟩
                                              · replace c37 := Bool.eq_false_iff.mpr c37
                                                subst c37
                                                have H1 : (if (rd t142 (ji8)) = 8 then (some 1) else (if (rd t142 (ji8)) = 7 then (frisketref06_At.j6 kj34 (rd t142 (ji8)) (rd t142 a1) true) else (if (rd t142 a1) = 7 then (frisketref06_At.j6 kj34 (rd t142 (ji8)) (rd t142 a1) true) else (if (rd t142 a1) = 5 then (frisketref06_At.j6 kj34 (rd t142 (ji8)) (rd t142 a1) true) else (if (rd t142 a1) = 6 then (frisketref06_At.j6 kj34 (rd t142 (ji8)) (rd t142 a1) true) else (frisketref06_At.j6 kj34 (rd t142 (ji8)) (rd t142 a1) x11_19)))))) = some r := by rw [if_neg (show ¬ (false = true) by decide)] at H; exact H
                                                clear H
                                                have H := H1
                                                clear H1
                                                by_cases c38 : (rd t142 (ji8)) = 8
                                                · rw [if_pos c38] at H
                                                  have c38b0 : ((rd t142 (ji8)) == 8) = true := beq_iff_eq.mpr c38
                                                  have c38b1 : ((rd t142 (ji8)) != 8) = false := bne_eq_false_iff_eq.mpr c38
                                                  clear c38
                                                  obtain rfl := Option.some.inj H
                                                  go_wp2
                                                  go_ret
                                                  exact ⟨by first | rfl | (simp [errW_none, errW_some] <;> rfl) | (simp only [← hji8]; first | rfl | (simp [errW_none, errW_some] <;> rfl)) | (simp [*, errW_none, errW_some] <;> rfl), by repeat (first | (with_reducible first | exact HB.out | apply below_alloc | apply pw_below_drewN | apply below_drew1) | exact HB.out)⟩
                                                · rw [if_neg c38] at H
                                                  have c38b0 : ((rd t142 (ji8)) == 8) = false := beq_eq_false_iff_ne.mpr c38
                                                  have c38b1 : ((rd t142 (ji8)) != 8) = true := bne_iff_ne.mpr c38
                                                  have HC39 := Aside0.mk H
                                                  clear H
                                                  go_upto_region 24 with (fail)
                                                  go_cut [94] (fun v94 wc => ∃ (kq : Nat) (x94_38 : Bool), v94 = .bool x94_38 ∧ Aside0 (frisketref06_At.j6 kq (rd t142 (ji8)) (rd t142 a1) x94_38 = some r) ∧ Aside0 (kq ≤ kj34) ∧ Aside0 (Below w.heap.size w wc))
                                                  case first =>
                                                    have H := HC39.out
                                                    clear HC39
                                                    by_cases c40 : (rd t142 (ji8)) = 7
                                                    · rw [if_pos c40] at H
                                                      have c40b0 : ((rd t142 (ji8)) == 7) = true := beq_iff_eq.mpr c40
                                                      have c40b1 : ((rd t142 (ji8)) != 7) = false := bne_eq_false_iff_eq.mpr c40
                                                      clear c40
                                                      (first | rw [c40b0] | (simp only [i64_w, i32_w]; rw [c40b0]) | skip)
                                                      have H' := Aside0.mk H
                                                      clear H
                                                      go_wp2
                                                      go_meet
                                                      case rel => exact ⟨_, (true), (by first | rfl | (simp; done) | (simp [*]; done)), H', ⟨by have := HJ2.out; have := HJ12.out; have := HJ19.out; have := HJ23.out; have := HJ29.out; have := HJ34.out; first | omega | exact Nat.le_refl _⟩, ⟨by repeat (first | (with_reducible first | exact HB.out | apply below_alloc | apply pw_below_drewN | apply below_drew1) | exact HB.out)⟩⟩
                                                    · rw [if_neg c40] at H
                                                      have c40b0 : ((rd t142 (ji8)) == 7) = false := beq_eq_false_iff_ne.mpr c40
                                                      have c40b1 : ((rd t142 (ji8)) != 7) = true := bne_iff_ne.mpr c40
                                                      (first | rw [c40b0] | (simp only [i64_w, i32_w]; rw [c40b0]) | skip)
                                                      by_cases c41 : (rd t142 a1) = 7
                                                      · rw [if_pos c41] at H
                                                        have c41b0 : ((rd t142 a1) == 7) = true := beq_iff_eq.mpr c41
                                                        have c41b1 : ((rd t142 a1) != 7) = false := bne_eq_false_iff_eq.mpr c41
                                                        clear c41
                                                        have H' := Aside0.mk H
                                                        clear H
                                                        go_wp2
                                                        go_meet
                                                        case rel => exact ⟨_, (true), (by first | rfl | (simp; done) | (simp [*]; done)), H', ⟨by have := HJ2.out; have := HJ12.out; have := HJ19.out; have := HJ23.out; have := HJ29.out; have := HJ34.out; first | omega | exact Nat.le_refl _⟩, ⟨by repeat (first | (with_reducible first | exact HB.out | apply below_alloc | apply pw_below_drewN | apply below_drew1) | exact HB.out)⟩⟩
                                                      · rw [if_neg c41] at H
                                                        have c41b0 : ((rd t142 a1) == 7) = false := beq_eq_false_iff_ne.mpr c41
                                                        have c41b1 : ((rd t142 a1) != 7) = true := bne_iff_ne.mpr c41
                                                        by_cases c42 : (rd t142 a1) = 5
                                                        · rw [if_pos c42] at H
                                                          have c42b0 : ((rd t142 a1) == 5) = true := beq_iff_eq.mpr c42
                                                          have c42b1 : ((rd t142 a1) != 5) = false := bne_eq_false_iff_eq.mpr c42
                                                          clear c42
                                                          have H' := Aside0.mk H
                                                          clear H
                                                          go_wp2
                                                          go_meet
                                                          case rel => exact ⟨_, (true), (by first | rfl | (simp; done) | (simp [*]; done)), H', ⟨by have := HJ2.out; have := HJ12.out; have := HJ19.out; have := HJ23.out; have := HJ29.out; have := HJ34.out; first | omega | exact Nat.le_refl _⟩, ⟨by repeat (first | (with_reducible first | exact HB.out | apply below_alloc | apply pw_below_drewN | apply below_drew1) | exact HB.out)⟩⟩
                                                        · rw [if_neg c42] at H
                                                          have c42b0 : ((rd t142 a1) == 5) = false := beq_eq_false_iff_ne.mpr c42
                                                          have c42b1 : ((rd t142 a1) != 5) = true := bne_iff_ne.mpr c42
                                                          by_cases c43 : (rd t142 a1) = 6
                                                          · rw [if_pos c43] at H
                                                            have c43b0 : ((rd t142 a1) == 6) = true := beq_iff_eq.mpr c43
                                                            have c43b1 : ((rd t142 a1) != 6) = false := bne_eq_false_iff_eq.mpr c43
                                                            clear c43
                                                            have H' := Aside0.mk H
                                                            clear H
                                                            go_wp2
                                                            go_meet
                                                            case rel => exact ⟨_, (true), (by first | rfl | (simp; done) | (simp [*]; done)), H', ⟨by have := HJ2.out; have := HJ12.out; have := HJ19.out; have := HJ23.out; have := HJ29.out; have := HJ34.out; first | omega | exact Nat.le_refl _⟩, ⟨by repeat (first | (with_reducible first | exact HB.out | apply below_alloc | apply pw_below_drewN | apply below_drew1) | exact HB.out)⟩⟩
                                                          · rw [if_neg c43] at H
                                                            have c43b0 : ((rd t142 a1) == 6) = false := beq_eq_false_iff_ne.mpr c43
                                                            have c43b1 : ((rd t142 a1) != 6) = true := bne_iff_ne.mpr c43
                                                            have H' := Aside0.mk H
                                                            clear H
                                                            go_wp2
                                                            go_meet
                                                            case rel => exact ⟨_, (x11_19), (by first | rfl | (simp; done) | (simp [*]; done)), H', ⟨by have := HJ2.out; have := HJ12.out; have := HJ19.out; have := HJ23.out; have := HJ29.out; have := HJ34.out; first | omega | exact Nat.le_refl _⟩, ⟨by repeat (first | (with_reducible first | exact HB.out | apply below_alloc | apply pw_below_drewN | apply below_drew1) | exact HB.out)⟩⟩
                                                  case rest =>
                                                    clear HC39
                                                    try clear c1
                                                    try clear p1
                                                    try clear q1
                                                    try clear hx1
                                                    try clear c2
                                                    try clear p2
                                                    try clear c3
                                                    try clear c4
                                                    try clear c4b0
                                                    try clear c5
                                                    try clear c6
                                                    try clear c6b0
                                                    try clear c6b1
                                                    try clear p6
                                                    try clear c9
                                                    try clear c9b0
                                                    try clear c10
                                                    try clear c10b0
                                                    try clear c11
                                                    try clear c11b0
                                                    try clear c12
                                                    try clear c12b0
                                                    try clear c13
                                                    try clear p14
                                                    try clear q14
                                                    try clear hx14
                                                    try clear c15
                                                    try clear p15
                                                    try clear q15
                                                    try clear hx15
                                                    try clear c16
                                                    try clear c16b0
                                                    try clear c16b1
                                                    try clear c17
                                                    try clear c17b0
                                                    try clear c17b1
                                                    try clear c21
                                                    try clear c22
                                                    try clear c25
                                                    try clear c25b0
                                                    try clear c26
                                                    try clear c26b0
                                                    try clear c27
                                                    try clear c27b0
                                                    try clear c27b1
                                                    try clear c28
                                                    try clear c29
                                                    try clear c29b0
                                                    try clear c29b1
                                                    try clear c31
                                                    try clear c31b0
                                                    try clear c31b1
                                                    try clear c32
                                                    try clear c32b0
                                                    try clear c32b1
                                                    try clear c33
                                                    try clear c34
                                                    try clear c36
                                                    try clear c36b0
                                                    try clear c36b1
                                                    try clear c37
                                                    try clear c38
                                                    try clear c38b0
                                                    try clear c38b1
                                                    try clear c40
                                                    try clear c40b0
                                                    try clear c40b1
                                                    try clear c41
                                                    try clear c41b0
                                                    try clear c41b1
                                                    try clear c42
                                                    try clear c42b0
                                                    try clear c42b1
                                                    try clear c43
                                                    try clear c43b0
                                                    try clear c43b1
                                                    try clear hx145_0
                                                    try clear hx146_0
                                                    try clear hx151_0
                                                    try clear p1
                                                    try clear p14
                                                    try clear p145
                                                    try clear p146
                                                    try clear p15
                                                    try clear p151
                                                    try clear p2
                                                    try clear p6
                                                    try clear q1
                                                    try clear q14
                                                    try clear q145
                                                    try clear q146
                                                    try clear q15
                                                    try clear q151
                                                    obtain ⟨kq, x94_38, rfl, HA, HJ38, HB⟩ := hcut
                                                    cases kq with
                                                    | zero => exact absurd HA.out (by simp [frisketref06_At.j6])
                                                    | succ kj38 =>
                                                      have H := HA.out
                                                      clear HA
                                                      simp only [frisketref06_At.j6] at H
                                                      by_cases c44 : x94_38 = true
                                                      · subst c44
                                                        have H1 : (some 0) = some r := by rw [if_pos rfl] at H; exact H
                                                        clear H
                                                        have H := H1
                                                        clear H1
                                                        obtain rfl := Option.some.inj H
                                                        go_wp2
                                                        go_ret
                                                        exact ⟨by first | rfl | (simp [errW_none, errW_some] <;> rfl) | (simp only [← hji8]; first | rfl | (simp [errW_none, errW_some] <;> rfl)) | (simp [*, errW_none, errW_some] <;> rfl), by repeat (first | (with_reducible first | exact HB.out | apply below_alloc | apply pw_below_drewN | apply below_drew1) | exact HB.out)⟩
                                                      · replace c44 := Bool.eq_false_iff.mpr c44
                                                        subst c44
                                                        have H1 : (if (rd t142 (ji8)) = 5 then (if (rd t142 a1) = 1 then (some 0) else (some 1)) else (some 1)) = some r := by rw [if_neg (show ¬ (false = true) by decide)] at H; exact H
                                                        clear H
                                                        have H := H1
                                                        clear H1
                                                        by_cases c45 : (rd t142 (ji8)) = 5
                                                        · rw [if_pos c45] at H
                                                          have c45b0 : ((rd t142 (ji8)) == 5) = true := beq_iff_eq.mpr c45
                                                          have c45b1 : ((rd t142 (ji8)) != 5) = false := bne_eq_false_iff_eq.mpr c45
                                                          clear c45
                                                          by_cases c46 : (rd t142 a1) = 1
                                                          · rw [if_pos c46] at H
                                                            have c46b0 : ((rd t142 a1) == 1) = true := beq_iff_eq.mpr c46
                                                            have c46b1 : ((rd t142 a1) != 1) = false := bne_eq_false_iff_eq.mpr c46
                                                            clear c46
                                                            obtain rfl := Option.some.inj H
                                                            go_wp2
                                                            go_ret
                                                            exact ⟨by first | rfl | (simp [errW_none, errW_some] <;> rfl) | (simp only [← hji8]; first | rfl | (simp [errW_none, errW_some] <;> rfl)) | (simp [*, errW_none, errW_some] <;> rfl), by repeat (first | (with_reducible first | exact HB.out | apply below_alloc | apply pw_below_drewN | apply below_drew1) | exact HB.out)⟩
                                                          · rw [if_neg c46] at H
                                                            have c46b0 : ((rd t142 a1) == 1) = false := beq_eq_false_iff_ne.mpr c46
                                                            have c46b1 : ((rd t142 a1) != 1) = true := bne_iff_ne.mpr c46
                                                            obtain rfl := Option.some.inj H
                                                            go_wp2
                                                            go_ret
                                                            exact ⟨by first | rfl | (simp [errW_none, errW_some] <;> rfl) | (simp only [← hji8]; first | rfl | (simp [errW_none, errW_some] <;> rfl)) | (simp [*, errW_none, errW_some] <;> rfl), by repeat (first | (with_reducible first | exact HB.out | apply below_alloc | apply pw_below_drewN | apply below_drew1) | exact HB.out)⟩
                                                        · rw [if_neg c45] at H
                                                          have c45b0 : ((rd t142 (ji8)) == 5) = false := beq_eq_false_iff_ne.mpr c45
                                                          have c45b1 : ((rd t142 (ji8)) != 5) = true := bne_iff_ne.mpr c45
                                                          obtain rfl := Option.some.inj H
                                                          go_wp2
                                                          go_ret
                                                          exact ⟨by first | rfl | (simp [errW_none, errW_some] <;> rfl) | (simp only [← hji8]; first | rfl | (simp [errW_none, errW_some] <;> rfl)) | (simp [*, errW_none, errW_some] <;> rfl), by repeat (first | (with_reducible first | exact HB.out | apply below_alloc | apply pw_below_drewN | apply below_drew1) | exact HB.out)⟩
                · rw [if_neg c12] at H
                  exact absurd H (by simp)
              · rw [if_neg c11] at H
                exact absurd H (by simp)
            · rw [if_neg c10] at H
              exact absurd H (by simp)
          · rw [if_neg c9] at H
            exact absurd H (by simp)

end Go.Proofs.Ytbcflgiapiclgaa.P
