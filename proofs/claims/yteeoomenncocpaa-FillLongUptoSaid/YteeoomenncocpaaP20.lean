/- Written by wip/tools/gprint.py of this repo over the translation: Lean functions that answer as the Go functions named below do, and the proof of it; the conditions stand in each theorem. -/
import Derived.Test.YteeoomenncocpaaP0
import Derived.Test.YteeoomenncocpaaP6
import Derived.Test.YteeoomenncocpaaP8
import Derived.Test.YteeoomenncocpaaP17
import Derived.Test.YteeoomenncocpaaHLines
namespace Go.Proofs.Yteeoomenncocpaa.P
open Go.RowKit Go.Proofs.YteeoomenncocpaaW.PrintWords Go.Proofs.YteeoomenncocpaaW.PrintLast Go.Proofs.YteeoomenncocpaaW.PrintMore
attribute [local go_sem] max2_int min2_int max_two min_two max_three min_three max_four min_four   -- for this text's walks alone
set_option linter.unusedVariables false
set_option linter.unusedSimpArgs false

/-! ### frisketlaw17_FillLong: function 6 -/
mutual
def frisketlaw17_FillLong.j0 : Nat → List (S32) → Bool → List Int → List Int → Int → Option (Bool)
  | 0, _, _, _, _, _ => none
  | k + 1, x3, x27, x222000, x222001, x222002 => if x27 = true then ((frisketlaw17_alive.f).bind fun t227 => (some t227)) else (frisketlaw17_FillLong.l0 k x3 0 x222000 x222001 x222002)
def frisketlaw17_FillLong.l0 : Nat → List (S32) → Int → List Int → List Int → Int → Option (Bool)
  | 0, _, _, _, _, _ => none
  | k + 1, x3, x6, x222000, x222001, x222002 => if x6 < (x3.length : Int) then (if 0 ≤ x6 then (if ((rd_T32 x3 x6).f1) < 1 then (frisketlaw17_FillLong.j2 k x3 x6 ((rd_T32 x3 x6).f1) true x222000 x222001 x222002) else (frisketlaw17_FillLong.j2 k x3 x6 ((rd_T32 x3 x6).f1) (decide (((rd_T32 x3 x6).f1) > (x222000.length : Int))) x222000 x222001 x222002)) else (none)) else ((frisketlaw17_alive.f).bind fun t228 => (some t228))
def frisketlaw17_FillLong.j2 : Nat → List (S32) → Int → Int → Bool → List Int → List Int → Int → Option (Bool)
  | 0, _, _, _, _, _, _, _ => none
  | k + 1, x3, x6, x7, x48, x222000, x222001, x222002 => if x48 = true then (some false) else (if x7 = (x222000.length : Int) then (frisketlaw17_FillLong.j3 k x3 x6 x7 true x222000 x222001 x222002) else (if 0 ≤ (wrap64 (x7 - 1)) then (if (wrap64 (x7 - 1)) < (x222001.length : Int) then (frisketlaw17_FillLong.j3 k x3 x6 x7 ((rd x222001 (wrap64 (x7 - 1))) == 2) x222000 x222001 x222002) else (none)) else (none)))
def frisketlaw17_FillLong.j3 : Nat → List (S32) → Int → Int → Bool → List Int → List Int → Int → Option (Bool)
  | 0, _, _, _, _, _, _, _ => none
  | k + 1, x3, x6, x7, x62, x222000, x222001, x222002 => if x62 = true then (frisketlaw17_FillLong.l0 k x3 (wrap64 (x6 + 1)) x222000 x222001 x222002) else (frisketlaw17_FillLong.l1 k x3 x6 x7 (wrap64 (x7 + 1)) x222000 x222001 x222002)
def frisketlaw17_FillLong.j5 : Nat → List (S32) → Int → Int → Int → List Int → List Int → Int → Option (Bool)
  | 0, _, _, _, _, _, _, _ => none
  | k + 1, x3, x6, x7, x8, x222000, x222001, x222002 => if 0 ≤ x6 then (if x6 < (x3.length : Int) then ((fill_Fits.f k x222000 ((rd_T32 x3 x6).f0) x8 x222002).bind fun t233 => (if t233 = true then (some false) else (if ((rd_T32 x3 x6).f3 = true) then ((fill_Fits.f k x222000 ((rd_T32 x3 x6).f0) (wrap64 (x7 + 1)) x222002).bind fun t236 => (if t236 = true then (some false) else (frisketlaw17_FillLong.l2 k x3 x6 x7 ((rd_T32 x3 x6).f0) x222000 x222001 x222002))) else (frisketlaw17_FillLong.l0 k x3 (wrap64 (x6 + 1)) x222000 x222001 x222002)))) else (none)) else (none)
def frisketlaw17_FillLong.l2 : Nat → List (S32) → Int → Int → Int → List Int → List Int → Int → Option (Bool)
  | 0, _, _, _, _, _, _, _ => none
  | k + 1, x3, x6, x7, x9, x222000, x222001, x222002 => if x9 < x7 then (if 0 ≤ x9 then (if x9 < (x222001.length : Int) then (if (rd x222001 x9) = 0 then (frisketlaw17_FillLong.l2 k x3 x6 x7 (wrap64 (x9 + 1)) x222000 x222001 x222002) else (some false)) else (none)) else (none)) else (frisketlaw17_FillLong.l0 k x3 (wrap64 (x6 + 1)) x222000 x222001 x222002)
def frisketlaw17_FillLong.l1 : Nat → List (S32) → Int → Int → Int → List Int → List Int → Int → Option (Bool)
  | 0, _, _, _, _, _, _, _ => none
  | k + 1, x3, x6, x7, x8, x222000, x222001, x222002 => if x8 < (x222000.length : Int) then (if 0 ≤ (wrap64 (x8 - 1)) then (if (wrap64 (x8 - 1)) < (x222001.length : Int) then (if (rd x222001 (wrap64 (x8 - 1))) = 0 then (frisketlaw17_FillLong.l1 k x3 x6 x7 (wrap64 (x8 + 1)) x222000 x222001 x222002) else (frisketlaw17_FillLong.j5 k x3 x6 x7 x8 x222000 x222001 x222002)) else (none)) else (none)) else (frisketlaw17_FillLong.j5 k x3 x6 x7 x8 x222000 x222001 x222002)
end
def frisketlaw17_FillLong.f (k : Nat) (l0_0 : List Int) (l0_1 : List Int) (a0_2 : Int) : Option (Bool) := (fill_Lines.f l0_0 l0_1 a0_2).bind fun bt222 => ((frisketlaw17_small.f k l0_0 l0_1 a0_2).bind fun t226 => (if t226 = true then (frisketlaw17_FillLong.j0 k bt222.1 (bt222.2 != 0) l0_0 l0_1 a0_2) else (frisketlaw17_FillLong.j0 k bt222.1 true l0_0 l0_1 a0_2)))
theorem frisketlaw17_FillLong.mono_l : ∀ k, (∀ y0 y1 y2 y3 y4, LeO (frisketlaw17_FillLong.j0 k y0 y1 y2 y3 y4) (frisketlaw17_FillLong.j0 (k + 1) y0 y1 y2 y3 y4)) ∧ (∀ y0 y1 y2 y3 y4, LeO (frisketlaw17_FillLong.l0 k y0 y1 y2 y3 y4) (frisketlaw17_FillLong.l0 (k + 1) y0 y1 y2 y3 y4)) ∧ (∀ y0 y1 y2 y3 y4 y5 y6, LeO (frisketlaw17_FillLong.j2 k y0 y1 y2 y3 y4 y5 y6) (frisketlaw17_FillLong.j2 (k + 1) y0 y1 y2 y3 y4 y5 y6)) ∧ (∀ y0 y1 y2 y3 y4 y5 y6, LeO (frisketlaw17_FillLong.j3 k y0 y1 y2 y3 y4 y5 y6) (frisketlaw17_FillLong.j3 (k + 1) y0 y1 y2 y3 y4 y5 y6)) ∧ (∀ y0 y1 y2 y3 y4 y5 y6, LeO (frisketlaw17_FillLong.j5 k y0 y1 y2 y3 y4 y5 y6) (frisketlaw17_FillLong.j5 (k + 1) y0 y1 y2 y3 y4 y5 y6)) ∧ (∀ y0 y1 y2 y3 y4 y5 y6, LeO (frisketlaw17_FillLong.l2 k y0 y1 y2 y3 y4 y5 y6) (frisketlaw17_FillLong.l2 (k + 1) y0 y1 y2 y3 y4 y5 y6)) ∧ (∀ y0 y1 y2 y3 y4 y5 y6, LeO (frisketlaw17_FillLong.l1 k y0 y1 y2 y3 y4 y5 y6) (frisketlaw17_FillLong.l1 (k + 1) y0 y1 y2 y3 y4 y5 y6))
  | 0 => ⟨fun _ _ _ _ _ r h => by simp [frisketlaw17_FillLong.j0] at h, fun _ _ _ _ _ r h => by simp [frisketlaw17_FillLong.l0] at h, fun _ _ _ _ _ _ _ r h => by simp [frisketlaw17_FillLong.j2] at h, fun _ _ _ _ _ _ _ r h => by simp [frisketlaw17_FillLong.j3] at h, fun _ _ _ _ _ _ _ r h => by simp [frisketlaw17_FillLong.j5] at h, fun _ _ _ _ _ _ _ r h => by simp [frisketlaw17_FillLong.l2] at h, fun _ _ _ _ _ _ _ r h => by simp [frisketlaw17_FillLong.l1] at h⟩
  | k + 1 => by
    obtain ⟨ih0, ih1, ih2, ih3, ih4, ih5, ih6⟩ := frisketlaw17_FillLong.mono_l k
    refine ⟨?_, ?_, ?_, ?_, ?_, ?_, ?_⟩
    · intro y0 y1 y2 y3 y4
      unfold frisketlaw17_FillLong.j0
      repeat' first
      | (with_reducible exact ih0 _ _ _ _ _)
      | (with_reducible exact ih1 _ _ _ _ _)
      | (with_reducible exact ih2 _ _ _ _ _ _ _)
      | (with_reducible exact ih3 _ _ _ _ _ _ _)
      | (with_reducible exact ih4 _ _ _ _ _ _ _)
      | (with_reducible exact ih5 _ _ _ _ _ _ _)
      | (with_reducible exact ih6 _ _ _ _ _ _ _)
      | (with_reducible exact fill_Fits.mono _ _ _ _ _)
      | (with_reducible exact frisketlaw17_small.mono _ _ _ _)
      | (with_reducible exact LeO.refl _)
      | (with_reducible exact LeO.none _)
      | (with_reducible refine LeO.ite ?_ ?_)
      | (with_reducible refine LeO.bind ?_ (fun _ => ?_))
      | exact ih0 _ _ _ _ _
      | exact ih1 _ _ _ _ _
      | exact ih2 _ _ _ _ _ _ _
      | exact ih3 _ _ _ _ _ _ _
      | exact ih4 _ _ _ _ _ _ _
      | exact ih5 _ _ _ _ _ _ _
      | exact ih6 _ _ _ _ _ _ _
      | exact fill_Fits.mono _ _ _ _ _
      | exact frisketlaw17_small.mono _ _ _ _
      | exact LeO.none _
      | refine LeO.ite ?_ ?_
      | refine LeO.bind ?_ (fun _ => ?_)
    · intro y0 y1 y2 y3 y4
      unfold frisketlaw17_FillLong.l0
      repeat' first
      | (with_reducible exact ih0 _ _ _ _ _)
      | (with_reducible exact ih1 _ _ _ _ _)
      | (with_reducible exact ih2 _ _ _ _ _ _ _)
      | (with_reducible exact ih3 _ _ _ _ _ _ _)
      | (with_reducible exact ih4 _ _ _ _ _ _ _)
      | (with_reducible exact ih5 _ _ _ _ _ _ _)
      | (with_reducible exact ih6 _ _ _ _ _ _ _)
      | (with_reducible exact fill_Fits.mono _ _ _ _ _)
      | (with_reducible exact frisketlaw17_small.mono _ _ _ _)
      | (with_reducible exact LeO.refl _)
      | (with_reducible exact LeO.none _)
      | (with_reducible refine LeO.ite ?_ ?_)
      | (with_reducible refine LeO.bind ?_ (fun _ => ?_))
      | exact ih0 _ _ _ _ _
      | exact ih1 _ _ _ _ _
      | exact ih2 _ _ _ _ _ _ _
      | exact ih3 _ _ _ _ _ _ _
      | exact ih4 _ _ _ _ _ _ _
      | exact ih5 _ _ _ _ _ _ _
      | exact ih6 _ _ _ _ _ _ _
      | exact fill_Fits.mono _ _ _ _ _
      | exact frisketlaw17_small.mono _ _ _ _
      | exact LeO.none _
      | refine LeO.ite ?_ ?_
      | refine LeO.bind ?_ (fun _ => ?_)
    · intro y0 y1 y2 y3 y4 y5 y6
      unfold frisketlaw17_FillLong.j2
      repeat' first
      | (with_reducible exact ih0 _ _ _ _ _)
      | (with_reducible exact ih1 _ _ _ _ _)
      | (with_reducible exact ih2 _ _ _ _ _ _ _)
      | (with_reducible exact ih3 _ _ _ _ _ _ _)
      | (with_reducible exact ih4 _ _ _ _ _ _ _)
      | (with_reducible exact ih5 _ _ _ _ _ _ _)
      | (with_reducible exact ih6 _ _ _ _ _ _ _)
      | (with_reducible exact fill_Fits.mono _ _ _ _ _)
      | (with_reducible exact frisketlaw17_small.mono _ _ _ _)
      | (with_reducible exact LeO.refl _)
      | (with_reducible exact LeO.none _)
      | (with_reducible refine LeO.ite ?_ ?_)
      | (with_reducible refine LeO.bind ?_ (fun _ => ?_))
      | exact ih0 _ _ _ _ _
      | exact ih1 _ _ _ _ _
      | exact ih2 _ _ _ _ _ _ _
      | exact ih3 _ _ _ _ _ _ _
      | exact ih4 _ _ _ _ _ _ _
      | exact ih5 _ _ _ _ _ _ _
      | exact ih6 _ _ _ _ _ _ _
      | exact fill_Fits.mono _ _ _ _ _
      | exact frisketlaw17_small.mono _ _ _ _
      | exact LeO.none _
      | refine LeO.ite ?_ ?_
      | refine LeO.bind ?_ (fun _ => ?_)
    · intro y0 y1 y2 y3 y4 y5 y6
      unfold frisketlaw17_FillLong.j3
      repeat' first
      | (with_reducible exact ih0 _ _ _ _ _)
      | (with_reducible exact ih1 _ _ _ _ _)
      | (with_reducible exact ih2 _ _ _ _ _ _ _)
      | (with_reducible exact ih3 _ _ _ _ _ _ _)
      | (with_reducible exact ih4 _ _ _ _ _ _ _)
      | (with_reducible exact ih5 _ _ _ _ _ _ _)
      | (with_reducible exact ih6 _ _ _ _ _ _ _)
      | (with_reducible exact fill_Fits.mono _ _ _ _ _)
      | (with_reducible exact frisketlaw17_small.mono _ _ _ _)
      | (with_reducible exact LeO.refl _)
      | (with_reducible exact LeO.none _)
      | (with_reducible refine LeO.ite ?_ ?_)
      | (with_reducible refine LeO.bind ?_ (fun _ => ?_))
      | exact ih0 _ _ _ _ _
      | exact ih1 _ _ _ _ _
      | exact ih2 _ _ _ _ _ _ _
      | exact ih3 _ _ _ _ _ _ _
      | exact ih4 _ _ _ _ _ _ _
      | exact ih5 _ _ _ _ _ _ _
      | exact ih6 _ _ _ _ _ _ _
      | exact fill_Fits.mono _ _ _ _ _
      | exact frisketlaw17_small.mono _ _ _ _
      | exact LeO.none _
      | refine LeO.ite ?_ ?_
      | refine LeO.bind ?_ (fun _ => ?_)
    · intro y0 y1 y2 y3 y4 y5 y6
      unfold frisketlaw17_FillLong.j5
      repeat' first
      | (with_reducible exact ih0 _ _ _ _ _)
      | (with_reducible exact ih1 _ _ _ _ _)
      | (with_reducible exact ih2 _ _ _ _ _ _ _)
      | (with_reducible exact ih3 _ _ _ _ _ _ _)
      | (with_reducible exact ih4 _ _ _ _ _ _ _)
      | (with_reducible exact ih5 _ _ _ _ _ _ _)
      | (with_reducible exact ih6 _ _ _ _ _ _ _)
      | (with_reducible exact fill_Fits.mono _ _ _ _ _)
      | (with_reducible exact frisketlaw17_small.mono _ _ _ _)
      | (with_reducible exact LeO.refl _)
      | (with_reducible exact LeO.none _)
      | (with_reducible refine LeO.ite ?_ ?_)
      | (with_reducible refine LeO.bind ?_ (fun _ => ?_))
      | exact ih0 _ _ _ _ _
      | exact ih1 _ _ _ _ _
      | exact ih2 _ _ _ _ _ _ _
      | exact ih3 _ _ _ _ _ _ _
      | exact ih4 _ _ _ _ _ _ _
      | exact ih5 _ _ _ _ _ _ _
      | exact ih6 _ _ _ _ _ _ _
      | exact fill_Fits.mono _ _ _ _ _
      | exact frisketlaw17_small.mono _ _ _ _
      | exact LeO.none _
      | refine LeO.ite ?_ ?_
      | refine LeO.bind ?_ (fun _ => ?_)
    · intro y0 y1 y2 y3 y4 y5 y6
      unfold frisketlaw17_FillLong.l2
      repeat' first
      | (with_reducible exact ih0 _ _ _ _ _)
      | (with_reducible exact ih1 _ _ _ _ _)
      | (with_reducible exact ih2 _ _ _ _ _ _ _)
      | (with_reducible exact ih3 _ _ _ _ _ _ _)
      | (with_reducible exact ih4 _ _ _ _ _ _ _)
      | (with_reducible exact ih5 _ _ _ _ _ _ _)
      | (with_reducible exact ih6 _ _ _ _ _ _ _)
      | (with_reducible exact fill_Fits.mono _ _ _ _ _)
      | (with_reducible exact frisketlaw17_small.mono _ _ _ _)
      | (with_reducible exact LeO.refl _)
      | (with_reducible exact LeO.none _)
      | (with_reducible refine LeO.ite ?_ ?_)
      | (with_reducible refine LeO.bind ?_ (fun _ => ?_))
      | exact ih0 _ _ _ _ _
      | exact ih1 _ _ _ _ _
      | exact ih2 _ _ _ _ _ _ _
      | exact ih3 _ _ _ _ _ _ _
      | exact ih4 _ _ _ _ _ _ _
      | exact ih5 _ _ _ _ _ _ _
      | exact ih6 _ _ _ _ _ _ _
      | exact fill_Fits.mono _ _ _ _ _
      | exact frisketlaw17_small.mono _ _ _ _
      | exact LeO.none _
      | refine LeO.ite ?_ ?_
      | refine LeO.bind ?_ (fun _ => ?_)
    · intro y0 y1 y2 y3 y4 y5 y6
      unfold frisketlaw17_FillLong.l1
      repeat' first
      | (with_reducible exact ih0 _ _ _ _ _)
      | (with_reducible exact ih1 _ _ _ _ _)
      | (with_reducible exact ih2 _ _ _ _ _ _ _)
      | (with_reducible exact ih3 _ _ _ _ _ _ _)
      | (with_reducible exact ih4 _ _ _ _ _ _ _)
      | (with_reducible exact ih5 _ _ _ _ _ _ _)
      | (with_reducible exact ih6 _ _ _ _ _ _ _)
      | (with_reducible exact fill_Fits.mono _ _ _ _ _)
      | (with_reducible exact frisketlaw17_small.mono _ _ _ _)
      | (with_reducible exact LeO.refl _)
      | (with_reducible exact LeO.none _)
      | (with_reducible refine LeO.ite ?_ ?_)
      | (with_reducible refine LeO.bind ?_ (fun _ => ?_))
      | exact ih0 _ _ _ _ _
      | exact ih1 _ _ _ _ _
      | exact ih2 _ _ _ _ _ _ _
      | exact ih3 _ _ _ _ _ _ _
      | exact ih4 _ _ _ _ _ _ _
      | exact ih5 _ _ _ _ _ _ _
      | exact ih6 _ _ _ _ _ _ _
      | exact fill_Fits.mono _ _ _ _ _
      | exact frisketlaw17_small.mono _ _ _ _
      | exact LeO.none _
      | refine LeO.ite ?_ ?_
      | refine LeO.bind ?_ (fun _ => ?_)
theorem frisketlaw17_FillLong.mono : ∀ a0 a1 a2 k, LeO (frisketlaw17_FillLong.f k a0 a1 a2) (frisketlaw17_FillLong.f (k + 1) a0 a1 a2) := by
  intro a0 a1 a2 k
  obtain ⟨ih0, ih1, ih2, ih3, ih4, ih5, ih6⟩ := frisketlaw17_FillLong.mono_l k
  unfold frisketlaw17_FillLong.f
  repeat' first
      | (with_reducible exact ih0 _ _ _ _ _)
      | (with_reducible exact ih1 _ _ _ _ _)
      | (with_reducible exact ih2 _ _ _ _ _ _ _)
      | (with_reducible exact ih3 _ _ _ _ _ _ _)
      | (with_reducible exact ih4 _ _ _ _ _ _ _)
      | (with_reducible exact ih5 _ _ _ _ _ _ _)
      | (with_reducible exact ih6 _ _ _ _ _ _ _)
      | (with_reducible exact fill_Fits.mono _ _ _ _ _)
      | (with_reducible exact frisketlaw17_small.mono _ _ _ _)
      | (with_reducible exact LeO.refl _)
      | (with_reducible exact LeO.none _)
      | (with_reducible refine LeO.ite ?_ ?_)
      | (with_reducible refine LeO.bind ?_ (fun _ => ?_))
      | exact ih0 _ _ _ _ _
      | exact ih1 _ _ _ _ _
      | exact ih2 _ _ _ _ _ _ _
      | exact ih3 _ _ _ _ _ _ _
      | exact ih4 _ _ _ _ _ _ _
      | exact ih5 _ _ _ _ _ _ _
      | exact ih6 _ _ _ _ _ _ _
      | exact fill_Fits.mono _ _ _ _ _
      | exact frisketlaw17_small.mono _ _ _ _
      | exact LeO.none _
      | refine LeO.ite ?_ ?_
      | refine LeO.bind ?_ (fun _ => ?_)
def frisketlaw17_FillLong.T15 : Bool × List (List Nat × List Nat) := (true, [([], []), ([0], [0]), ([], []), ([], []), ([2, 3], [2, 3]), ([4], [4]), ([5], [5]), ([], []), ([], []), ([8], [8]), ([1, 6, 7, 9], [1, 6, 7, 9])])
def frisketlaw17_FillLong.B15 : List Nat := [0, 1, 0, 0, 12, 28, 60, 0, 0, 256, 1023]
theorem frisketlaw17_FillLong.tab15 : rtab .any (opsOf Try.f6 15) = frisketlaw17_FillLong.T15 := by kernel_rfl
theorem frisketlaw17_FillLong.bits15 : waitsOk frisketlaw17_FillLong.T15.2 frisketlaw17_FillLong.B15 = true := by kernel_rfl
def frisketlaw17_FillLong.T18 : Bool × List (List Nat × List Nat) := (true, [([], []), ([0], [0]), ([], []), ([], []), ([2, 3], [2, 3]), ([4], [4]), ([5], [5]), ([], []), ([7], [7]), ([], []), ([9], [9]), ([1, 6, 8, 10], [1, 6, 8, 10])])
def frisketlaw17_FillLong.B18 : List Nat := [0, 1, 0, 0, 12, 28, 60, 0, 128, 0, 512, 2047]
theorem frisketlaw17_FillLong.tab18 : rtab .any (opsOf Try.f6 18) = frisketlaw17_FillLong.T18 := by kernel_rfl
theorem frisketlaw17_FillLong.bits18 : waitsOk frisketlaw17_FillLong.T18.2 frisketlaw17_FillLong.B18 = true := by kernel_rfl
set_option maxHeartbeats 8000000 in
set_option maxRecDepth 100000 in
theorem frisketlaw17_FillLong.calls (k : Nat) (A0_0 : Option Addr) (c0_0 : Nat) (l0_0 : List Int) (A0_1 : Option Addr) (c0_1 : Nat) (l0_1 : List Int) (a0_2 : Int) (r : Bool) (w : World) (hr0_0 : Kd.C (Kd.int .i64) w A0_0 l0_0.length l0_0) (hc0_0 : l0_0.length ≤ c0_0) (hr0_1 : Kd.C (Kd.int .i64) w A0_1 l0_1.length l0_1) (hc0_1 : l0_1.length ≤ c0_1) (hrt : r = true) (h : frisketlaw17_FillLong.f k l0_0 l0_1 a0_2 = some r) :
    Calls Try.prog 6 #[.agg #[.slice A0_0 l0_0.length c0_0, .slice A0_1 l0_1.length c0_1, .int .i64 a0_2]] w fun e w' => e = .returned (.bool r) ∧ Below w.heap.size w w' := by
  have hu24 := Try.underlying24
  have HR0_0 := Aside0.mk hr0_0
  have HC0_0 := Aside0.mk hc0_0
  clear hr0_0 hc0_0
  have HR0_1 := Aside0.mk hr0_1
  have HC0_1 := Aside0.mk hc0_1
  clear hr0_1 hc0_1
  have HB := Aside0.mk (Below.refl w.heap.size w)
  have HRT := Aside0.mk hrt
  clear hrt
  have H : ((fill_Lines.f l0_0 l0_1 a0_2).bind fun bt222 => ((frisketlaw17_small.f k l0_0 l0_1 a0_2).bind fun t226 => (if t226 = true then (frisketlaw17_FillLong.j0 k bt222.1 (bt222.2 != 0) l0_0 l0_1 a0_2) else (frisketlaw17_FillLong.j0 k bt222.1 true l0_0 l0_1 a0_2)))) = some r := h
  clear h
  replace H := Option.bind_eq_some_iff.mp H
  obtain ⟨⟨t222, t223⟩, A20, H⟩ := H
  replace H : ((frisketlaw17_small.f k l0_0 l0_1 a0_2).bind fun t226 => (if t226 = true then (frisketlaw17_FillLong.j0 k t222 (t223 != 0) l0_0 l0_1 a0_2) else (frisketlaw17_FillLong.j0 k t222 true l0_0 l0_1 a0_2))) = some r := H
  have A2 := Aside0.mk A20
  clear A20
  replace H := Option.bind_eq_some_iff.mp H
  obtain ⟨t226, A30, H⟩ := H
  replace H : (if t226 = true then (frisketlaw17_FillLong.j0 k t222 (t223 != 0) l0_0 l0_1 a0_2) else (frisketlaw17_FillLong.j0 k t222 true l0_0 l0_1 a0_2)) = some r := H
  have A3 := Aside0.mk A30
  clear A30
  have HC4 := Aside0.mk H
  clear H
  go_enter Try.func6, Try.ntmps6
  go_upto_region 3 with (first | ((with_reducible refine gate_dst (N := 1) rfl ?_); (try (refine gate_guard (by rfl) ?_; dsimp only)); refine box_event ?hg (N := 1) ?hd (cs := #[.slice A0_0 l0_0.length c0_0, .slice A0_1 l0_1.length c0_1, .int .i64 a0_2]) (t := 24) ?hr ?_; (case hd => rfl); (case hg => rfl); (case hr => first | (go_simp; done) | (go_simp; rfl)); intro gb221 hg w5 hbox hb; have n0_ := Aside0.mk (below_step (by repeat (first | (with_reducible first | exact HB.out | apply below_alloc | apply pw_below_drewN | apply below_drew1) | exact HB.out)) hb); have n1_ := Aside0.mk (hbox); have n2_ := Aside0.mk ((by rw [hg]; exact (below_size (by repeat (first | (with_reducible first | exact HB.out | apply below_alloc | apply pw_below_drewN | apply below_drew1) | exact HB.out))) : w.heap.size ≤ gb221)); have n3_ := Aside0.mk ((by rw [hg]; exact (below_size (by repeat (first | (with_reducible first | exact HB.out | apply below_alloc | apply pw_below_drewN | apply below_drew1) | exact HB.out))) : w.heap.size ≤ gb221)); clear HB; have HB := n0_; have BK221 := n1_; have GW221 := n2_; have GE221 := n3_; clear n0_ n1_ n2_ n3_; clear hb hbox hg; have hcz6_0 : w5.cell? ⟨gb221, 0, none⟩ = some (.slice A0_0 l0_0.length c0_0) := (blk_cell BK221.out 0).trans rfl; have hcz6_1 : w5.cell? ⟨gb221, 1, none⟩ = some (.slice A0_1 l0_1.length c0_1) := (blk_cell BK221.out 1).trans rfl; have hcz6_2 : w5.cell? ⟨gb221, 2, none⟩ = some (.int .i64 a0_2) := (blk_cell BK221.out 2).trans rfl; have hfz6_0 := blk_frozen BK221.out 0; have hfz6_1 := blk_frozen BK221.out 1; have hfz6_2 := blk_frozen BK221.out 2) | ((with_reducible refine gate_callee (f := 7) rfl ?_); refine goesL_ (some 17) rfl rfl Try.func7 (by kernel_rfl) rfl #[.slice A0_0 l0_0.length c0_0, .slice A0_1 l0_1.length c0_1, .int .i64 a0_2] rfl (by (try simp only [List.map_toArray, List.map_cons, List.map_nil]); first | done | rfl | (simp only [List.length_drop, List.length_take]; rfl)) ?_; (with_reducible refine (fill_Lines.calls _ _ l0_0 _ _ l0_1 a0_2 t222 t223 _ ?side1 ?side2 ?side3 ?side4 A2.out).mono ?_); (case side1 => repeat (first | exact (Kd.C_below HR0_0.out HB.out) | (with_reducible refine Kd.C_alloc ?_ _) | (with_reducible refine Kd.C_drewN ?_ _) | (with_reducible refine Kd.C_drew ?_))); (case side2 => exact HC0_0.out); (case side3 => repeat (first | exact (Kd.C_below HR0_1.out HB.out) | (with_reducible refine Kd.C_alloc ?_ _) | (with_reducible refine Kd.C_drewN ?_ _) | (with_reducible refine Kd.C_drew ?_))); (case side4 => exact HC0_1.out); rintro e w7 ⟨v224, rfl, ho0, hb⟩; refine ⟨_, rfl, ?_⟩; have n0_ := Aside0.mk (Kd.R_lower ho0 (below_size (by repeat (first | (with_reducible first | exact HB.out | apply below_alloc | apply pw_below_drewN | apply below_drew1 | refine below_set ?_ GE221.out) | exact HB.out)))); have n1_ := Aside0.mk (blk_below (g := gb221) (o := .cells #[.slice A0_0 l0_0.length c0_0, .slice A0_1 l0_1.length c0_1, .int .i64 a0_2] 24 (0, 0)) (by (with_reducible repeat (first | refine blk_drewN ?_ _ | refine blk_drew ?_ | refine blk_alloc ?_ _)); exact BK221.out) hb); have n2_ := Aside0.mk (below_step (by repeat (first | (with_reducible first | exact HB.out | apply below_alloc | apply pw_below_drewN | apply below_drew1 | refine below_set ?_ GE221.out) | exact HB.out)) hb); clear BK221; clear HB; have HO225 := n0_; have BK221 := n1_; have HB := n2_; clear n0_ n1_ n2_; (try clear hb); (try clear hb2); (try clear hk); (try clear hi); (try clear ho0); have hcz8_0 : w7.cell? ⟨gb221, 0, none⟩ = some (.slice A0_0 l0_0.length c0_0) := (blk_cell BK221.out 0).trans rfl; have hcz8_1 : w7.cell? ⟨gb221, 1, none⟩ = some (.slice A0_1 l0_1.length c0_1) := (blk_cell BK221.out 1).trans rfl; have hcz8_2 : w7.cell? ⟨gb221, 2, none⟩ = some (.int .i64 a0_2) := (blk_cell BK221.out 2).trans rfl; have hfz8_0 := blk_frozen BK221.out 0; have hfz8_1 := blk_frozen BK221.out 1; have hfz8_2 := blk_frozen BK221.out 2) | ((with_reducible refine gate_callee (f := 8) rfl ?_); refine goesL_ (some 21) rfl rfl Try.func8 (by kernel_rfl) rfl #[.agg #[.slice A0_0 l0_0.length c0_0, .slice A0_1 l0_1.length c0_1, .int .i64 a0_2]] rfl (by (try simp only [List.map_toArray, List.map_cons, List.map_nil]); first | done | rfl | (simp only [List.length_drop, List.length_take]; rfl)) ?_; (with_reducible refine (frisketlaw17_small.calls k _ _ l0_0 _ _ l0_1 a0_2 t226 _ ?side1 ?side2 ?side3 ?side4 A3.out).mono ?_); (case side1 => repeat (first | exact (Kd.C_below HR0_0.out HB.out) | (with_reducible refine Kd.C_alloc ?_ _) | (with_reducible refine Kd.C_drewN ?_ _) | (with_reducible refine Kd.C_drew ?_))); (case side2 => exact HC0_0.out); (case side3 => repeat (first | exact (Kd.C_below HR0_1.out HB.out) | (with_reducible refine Kd.C_alloc ?_ _) | (with_reducible refine Kd.C_drewN ?_ _) | (with_reducible refine Kd.C_drew ?_))); (case side4 => exact HC0_1.out); rintro e w9 ⟨rfl, hb⟩; refine ⟨_, rfl, ?_⟩; have n0_ := Aside0.mk (Kd.R_below (by (with_reducible repeat (first | apply Kd.R_alloc | apply Kd.R_drewN | apply Kd.R_drew)); exact HO225.out) hb); have n1_ := Aside0.mk (blk_below (g := gb221) (o := .cells #[.slice A0_0 l0_0.length c0_0, .slice A0_1 l0_1.length c0_1, .int .i64 a0_2] 24 (0, 0)) (by (with_reducible repeat (first | refine blk_drewN ?_ _ | refine blk_drew ?_ | refine blk_alloc ?_ _)); exact BK221.out) hb); have n2_ := Aside0.mk (below_step (by repeat (first | (with_reducible first | exact HB.out | apply below_alloc | apply pw_below_drewN | apply below_drew1 | refine below_set ?_ GE221.out) | exact HB.out)) hb); clear HO225; clear BK221; clear HB; have HO225 := n0_; have BK221 := n1_; have HB := n2_; clear n0_ n1_ n2_; (try clear hb); (try clear hb2); (try clear hk); (try clear hi)))
  (try simp only [Act.put, List.setIfInBounds_toArray, List.set_cons_zero, List.set_cons_succ])
  go_cut [27] (fun v27 wc => ∃ (kq : Nat) (x27_3 : Bool), v27 = .bool x27_3 ∧ Aside0 (frisketlaw17_FillLong.j0 kq t222 x27_3 l0_0 l0_1 a0_2 = some r) ∧ Aside0 (kq ≤ k) ∧ Aside0 (Kd.R k32 32 wc w.heap.size (fun _ => True) v224 t222) ∧ Aside0 (wc.heap[gb221]? = some (.cells #[(.slice A0_0 l0_0.length c0_0), (.slice A0_1 l0_1.length c0_1), .int .i64 a0_2] 24 (0, 0))) ∧ Aside0 (Below w.heap.size w wc))
  case first =>
    have H := HC4.out
    clear HC4
    by_cases c10 : t226 = true
    · subst c10
      have H1 : (frisketlaw17_FillLong.j0 k t222 (t223 != 0) l0_0 l0_1 a0_2) = some r := by rw [if_pos rfl] at H; exact H
      clear H
      have H := H1
      clear H1
      have H' := Aside0.mk H
      clear H
      go_wp2
      go_meet
      case rel => exact ⟨_, ((t223 != 0)), (by first | rfl | (simp; done) | (simp [*]; done)), H', ⟨by first | omega | exact Nat.le_refl _⟩, ⟨by (with_reducible repeat (first | apply Kd.R_alloc | apply Kd.R_drewN | apply Kd.R_drew)); exact HO225.out⟩, ⟨by (with_reducible repeat (first | refine blk_drewN ?_ _ | refine blk_drew ?_ | refine blk_alloc ?_ _)); exact BK221.out⟩, ⟨by repeat (first | (with_reducible first | exact HB.out | apply below_alloc | apply pw_below_drewN | apply below_drew1 | refine below_set ?_ GE221.out) | exact HB.out)⟩⟩
    · replace c10 := Bool.eq_false_iff.mpr c10
      subst c10
      have H1 : (frisketlaw17_FillLong.j0 k t222 true l0_0 l0_1 a0_2) = some r := by rw [if_neg (show ¬ (false = true) by decide)] at H; exact H
      clear H
      have H := H1
      clear H1
      have H' := Aside0.mk H
      clear H
      go_wp2
      go_meet
      case rel => exact ⟨_, (true), (by first | rfl | (simp; done) | (simp [*]; done)), H', ⟨by first | omega | exact Nat.le_refl _⟩, ⟨by (with_reducible repeat (first | apply Kd.R_alloc | apply Kd.R_drewN | apply Kd.R_drew)); exact HO225.out⟩, ⟨by (with_reducible repeat (first | refine blk_drewN ?_ _ | refine blk_drew ?_ | refine blk_alloc ?_ _)); exact BK221.out⟩, ⟨by repeat (first | (with_reducible first | exact HB.out | apply below_alloc | apply pw_below_drewN | apply below_drew1 | refine below_set ?_ GE221.out) | exact HB.out)⟩⟩
  case rest =>
    clear HC4
    try clear c1
    try clear p2
    try clear c6
    try clear c7
    try clear c8
    try clear c10
    try clear hcz6_0
    try clear hcz6_1
    try clear hcz6_2
    try clear hcz8_0
    try clear hcz8_1
    try clear hcz8_2
    try clear hfz6_0
    try clear hfz6_1
    try clear hfz6_2
    try clear hfz8_0
    try clear hfz8_1
    try clear hfz8_2
    obtain ⟨kq, x27_3, rfl, HA, HJ3, HO_3, BK221, HB⟩ := hcut
    cases kq with
    | zero => exact absurd HA.out (by simp [frisketlaw17_FillLong.j0])
    | succ kj3 =>
      have H := HA.out
      clear HA
      simp only [frisketlaw17_FillLong.j0] at H
      by_cases c11 : x27_3 = true
      · subst c11
        have H1 : ((frisketlaw17_alive.f).bind fun t227 => (some t227)) = some r := by rw [if_pos rfl] at H; exact H
        clear H
        have H := H1
        clear H1
        replace H := Option.bind_eq_some_iff.mp H
        obtain ⟨t227, A120, H⟩ := H
        replace H : (some t227) = some r := H
        have A12 := Aside0.mk A120
        clear A120
        obtain rfl := Option.some.inj H
        go_wp2_with (first | ((with_reducible refine gate_callee (f := 9) rfl ?_); refine goesL_ (some 28) rfl rfl Try.func9 (by kernel_rfl) rfl #[] rfl (by (try simp only [List.map_toArray, List.map_cons, List.map_nil]); first | done | rfl | (simp only [List.length_drop, List.length_take]; rfl)) ?_; (with_reducible refine (frisketlaw17_alive.calls  t227 _ A12.out).mono ?_); rintro e w13 ⟨rfl, hb⟩; refine ⟨_, rfl, ?_⟩; have n0_ := Aside0.mk (Kd.R_below (by (with_reducible repeat (first | apply Kd.R_alloc | apply Kd.R_drewN | apply Kd.R_drew)); exact HO_3.out) hb); have n1_ := Aside0.mk (blk_below (g := gb221) (o := .cells #[.slice A0_0 l0_0.length c0_0, .slice A0_1 l0_1.length c0_1, .int .i64 a0_2] 24 (0, 0)) (by (with_reducible repeat (first | refine blk_drewN ?_ _ | refine blk_drew ?_ | refine blk_alloc ?_ _)); exact BK221.out) hb); have n2_ := Aside0.mk (below_step (by repeat (first | (with_reducible first | exact HB.out | apply below_alloc | apply pw_below_drewN | apply below_drew1 | refine below_set ?_ GE221.out) | exact HB.out)) hb); clear HO_3; clear BK221; clear HB; have HO_3 := n0_; have BK221 := n1_; have HB := n2_; clear n0_ n1_ n2_; (try clear hb); (try clear hb2); (try clear hk); (try clear hi)))
        go_ret
        exact ⟨by first | rfl | (simp [errW_none, errW_some] <;> rfl) | (simp [*, errW_none, errW_some] <;> rfl), by repeat (first | (with_reducible first | exact HB.out | apply below_alloc | apply pw_below_drewN | apply below_drew1 | refine below_set ?_ GE221.out) | exact HB.out)⟩
      · replace c11 := Bool.eq_false_iff.mpr c11
        subst c11
        have H1 : (frisketlaw17_FillLong.l0 kj3 t222 0 l0_0 l0_1 a0_2) = some r := by rw [if_neg (show ¬ (false = true) by decide)] at H; exact H
        clear H
        have H := H1
        clear H1
        have H' := Aside0.mk H
        clear H
        go_wp2
        go_loopg [6] kj3 (fun kq v6 w' => ∃ (x6_2 : Int), v6 = .int .i64 x6_2 ∧ Aside0 (frisketlaw17_FillLong.l0 kq t222 x6_2 l0_0 l0_1 a0_2 = some r) ∧ Aside0 (kq ≤ kj3) ∧ Aside0 (Kd.R k32 32 w' w.heap.size (fun _ => True) v224 t222) ∧ Aside0 (w'.heap[gb221]? = some (.cells #[(.slice A0_0 l0_0.length c0_0), (.slice A0_1 l0_1.length c0_1), .int .i64 a0_2] 24 (0, 0))) ∧ Aside0 (Below w.heap.size w w'))
        case atStart => exact ⟨(0), (by first | rfl | (simp; done) | (simp [*]; done)), H', ⟨Nat.le_refl _⟩, ⟨by (with_reducible repeat (first | apply Kd.R_alloc | apply Kd.R_drewN | apply Kd.R_drew)); exact HO_3.out⟩, ⟨by (with_reducible repeat (first | refine blk_drewN ?_ _ | refine blk_drew ?_ | refine blk_alloc ?_ _)); exact BK221.out⟩, ⟨by repeat (first | (with_reducible first | exact HB.out | apply below_alloc | apply pw_below_drewN | apply below_drew1 | refine below_set ?_ GE221.out) | exact HB.out)⟩⟩
        case round =>
          clear H'
          try clear c1
          try clear p2
          try clear c6
          try clear c7
          try clear c8
          try clear c9
          try clear c10
          try clear c11
          try clear hcz6_0
          try clear hcz6_1
          try clear hcz6_2
          try clear hcz8_0
          try clear hcz8_1
          try clear hcz8_2
          try clear hfz6_0
          try clear hfz6_1
          try clear hfz6_2
          try clear hfz8_0
          try clear hfz8_1
          try clear hfz8_2
          try clear p2
          obtain ⟨x6_2, rfl, HA, HK2, HO_3, BK221, HB⟩ := hrel
          cases gk with
          | zero => exact absurd HA.out (by simp [frisketlaw17_FillLong.l0])
          | succ k2 =>
            have H := HA.out
            clear HA
            simp only [frisketlaw17_FillLong.l0] at H
            by_cases c14 : x6_2 < (t222.length : Int)
            · rw [if_pos c14] at H
              have c14b0 : decide (x6_2 < (t222.length : Int)) = true := decide_eq_true c14
              clear c14
              by_cases c15 : 0 ≤ x6_2
              · rw [if_pos c15] at H
                have c15b0 : decide (0 ≤ x6_2) = true := decide_eq_true c15
                clear c15
                have HC16 := Aside0.mk H
                clear H
                obtain ⟨Ao17, co17, eo17⟩ := Kd.R_slice HO_3.out
                subst eo17
                have p229 : 0 ≤ (x6_2 : Int) := of_decide_eq_true (by first | (with_reducible assumption) | assumption)
                have q229 : x6_2 < (t222.length : Int) := of_decide_eq_true (by first | (with_reducible assumption) | assumption)
                obtain ⟨ad229, e229, hx229_0, hx229_1, hx229_2, hx229_3⟩ := at_T32 (Kd.R_reads' HO_3.out).2.2 x6_2 p229 q229
                cases e229
                replace p229 := eq_true p229
                replace q229 := eq_true q229
                go_upto_region 9 with (fail)
                go_cut [48] (fun v48 wc => ∃ (kq : Nat) (x48_15 : Bool), v48 = .bool x48_15 ∧ Aside0 (frisketlaw17_FillLong.j2 kq t222 x6_2 ((rd_T32 t222 x6_2).f1) x48_15 l0_0 l0_1 a0_2 = some r) ∧ Aside0 (kq ≤ k2) ∧ Aside0 (Kd.R k32 32 wc w.heap.size (fun _ => True) (.slice (some ad229) t222.length co17) t222) ∧ Aside0 (wc.heap[gb221]? = some (.cells #[(.slice A0_0 l0_0.length c0_0), (.slice A0_1 l0_1.length c0_1), .int .i64 a0_2] 24 (0, 0))) ∧ Aside0 (Below w.heap.size w wc))
                case first =>
                  have H := HC16.out
                  clear HC16
                  by_cases c18 : ((rd_T32 t222 x6_2).f1) < 1
                  · rw [if_pos c18] at H
                    have c18b0 : decide (((rd_T32 t222 x6_2).f1) < 1) = true := decide_eq_true c18
                    clear c18
                    (first | rw [c18b0] | (simp only [i64_w, i32_w]; rw [c18b0]) | skip)
                    have H' := Aside0.mk H
                    clear H
                    go_wp2
                    go_meet
                    case rel => exact ⟨_, (true), (by first | rfl | (simp; done) | (simp [*]; done)), H', ⟨by have := HJ3.out; have := HK2.out; first | omega | exact Nat.le_refl _⟩, ⟨by (with_reducible repeat (first | apply Kd.R_alloc | apply Kd.R_drewN | apply Kd.R_drew)); exact HO_3.out⟩, ⟨by (with_reducible repeat (first | refine blk_drewN ?_ _ | refine blk_drew ?_ | refine blk_alloc ?_ _)); exact BK221.out⟩, ⟨by repeat (first | (with_reducible first | exact HB.out | apply below_alloc | apply pw_below_drewN | apply below_drew1 | refine below_set ?_ GE221.out) | exact HB.out)⟩⟩
                  · rw [if_neg c18] at H
                    have c18b0 : decide (((rd_T32 t222 x6_2).f1) < 1) = false := decide_eq_false c18
                    clear c18
                    (first | rw [c18b0] | (simp only [i64_w, i32_w]; rw [c18b0]) | skip)
                    have H' := Aside0.mk H
                    clear H
                    have hcz19_0 : wr.cell? ⟨gb221, 0, none⟩ = some (.slice A0_0 l0_0.length c0_0) := (blk_cell BK221.out 0).trans rfl
                    have hcz19_1 : wr.cell? ⟨gb221, 1, none⟩ = some (.slice A0_1 l0_1.length c0_1) := (blk_cell BK221.out 1).trans rfl
                    have hcz19_2 : wr.cell? ⟨gb221, 2, none⟩ = some (.int .i64 a0_2) := (blk_cell BK221.out 2).trans rfl
                    have hfz19_0 := blk_frozen BK221.out 0
                    have hfz19_1 := blk_frozen BK221.out 1
                    have hfz19_2 := blk_frozen BK221.out 2
                    go_wp2
                    go_meet
                    case rel => exact ⟨_, (decide (((rd_T32 t222 x6_2).f1) > (l0_0.length : Int))), (by first | rfl | (simp; done) | (simp [*]; done)), H', ⟨by have := HJ3.out; have := HK2.out; first | omega | exact Nat.le_refl _⟩, ⟨by (with_reducible repeat (first | apply Kd.R_alloc | apply Kd.R_drewN | apply Kd.R_drew)); exact HO_3.out⟩, ⟨by (with_reducible repeat (first | refine blk_drewN ?_ _ | refine blk_drew ?_ | refine blk_alloc ?_ _)); exact BK221.out⟩, ⟨by repeat (first | (with_reducible first | exact HB.out | apply below_alloc | apply pw_below_drewN | apply below_drew1 | refine below_set ?_ GE221.out) | exact HB.out)⟩⟩
                case rest =>
                  clear HC16
                  try clear c1
                  try clear p2
                  try clear q2
                  try clear hx2
                  try clear c6
                  try clear c7
                  try clear c8
                  try clear c9
                  try clear c10
                  try clear c11
                  try clear c14
                  try clear c14b0
                  try clear c15
                  try clear c15b0
                  try clear c18
                  try clear c18b0
                  try clear hcz19_0
                  try clear hcz19_1
                  try clear hcz19_2
                  try clear hcz6_0
                  try clear hcz6_1
                  try clear hcz6_2
                  try clear hcz8_0
                  try clear hcz8_1
                  try clear hcz8_2
                  try clear hfz19_0
                  try clear hfz19_1
                  try clear hfz19_2
                  try clear hfz6_0
                  try clear hfz6_1
                  try clear hfz6_2
                  try clear hfz8_0
                  try clear hfz8_1
                  try clear hfz8_2
                  try clear hx229_0
                  try clear hx229_1
                  try clear hx229_2
                  try clear hx229_3
                  try clear p2
                  try clear p229
                  try clear q229
                  obtain ⟨kq, x48_15, rfl, HA, HJ15, HO_3, BK221, HB⟩ := hcut
                  cases kq with
                  | zero => exact absurd HA.out (by simp [frisketlaw17_FillLong.j2])
                  | succ kj15 =>
                    have H := HA.out
                    clear HA
                    simp only [frisketlaw17_FillLong.j2] at H
                    by_cases c20 : x48_15 = true
                    · subst c20
                      have H1 : (some false) = some r := by rw [if_pos rfl] at H; exact H
                      clear H
                      have H := H1
                      clear H1
                      exact af_absurd HRT.out H (by repeat (first | exact AF.none | exact AF.false | refine AF.ite ?_ ?_ | refine AF.bind (fun _ => ?_)))
                    · replace c20 := Bool.eq_false_iff.mpr c20
                      subst c20
                      have H1 : (if ((rd_T32 t222 x6_2).f1) = (l0_0.length : Int) then (frisketlaw17_FillLong.j3 kj15 t222 x6_2 ((rd_T32 t222 x6_2).f1) true l0_0 l0_1 a0_2) else (if 0 ≤ (wrap64 (((rd_T32 t222 x6_2).f1) - 1)) then (if (wrap64 (((rd_T32 t222 x6_2).f1) - 1)) < (l0_1.length : Int) then (frisketlaw17_FillLong.j3 kj15 t222 x6_2 ((rd_T32 t222 x6_2).f1) ((rd l0_1 (wrap64 (((rd_T32 t222 x6_2).f1) - 1))) == 2) l0_0 l0_1 a0_2) else (none)) else (none))) = some r := by rw [if_neg (show ¬ (false = true) by decide)] at H; exact H
                      clear H
                      have H := H1
                      clear H1
                      have HC21 := Aside0.mk H
                      clear H
                      go_upto_region 11 with (fail)
                      go_cut [62] (fun v62 wc => ∃ (kq : Nat) (x62_20 : Bool), v62 = .bool x62_20 ∧ Aside0 (frisketlaw17_FillLong.j3 kq t222 x6_2 ((rd_T32 t222 x6_2).f1) x62_20 l0_0 l0_1 a0_2 = some r) ∧ Aside0 (kq ≤ kj15) ∧ Aside0 (Kd.R k32 32 wc w.heap.size (fun _ => True) (.slice (some ad229) t222.length co17) t222) ∧ Aside0 (wc.heap[gb221]? = some (.cells #[(.slice A0_0 l0_0.length c0_0), (.slice A0_1 l0_1.length c0_1), .int .i64 a0_2] 24 (0, 0))) ∧ Aside0 (Below w.heap.size w wc))
                      case first =>
                        have H := HC21.out
                        clear HC21
                        by_cases c22 : ((rd_T32 t222 x6_2).f1) = (l0_0.length : Int)
                        · rw [if_pos c22] at H
                          have c22b0 : (((rd_T32 t222 x6_2).f1) == (l0_0.length : Int)) = true := beq_iff_eq.mpr c22
                          have c22b1 : (((rd_T32 t222 x6_2).f1) != (l0_0.length : Int)) = false := bne_eq_false_iff_eq.mpr c22
                          clear c22
                          (first | rw [c22b0] | (simp only [i64_w, i32_w]; rw [c22b0]) | skip)
                          have H' := Aside0.mk H
                          clear H
                          have hcz23_0 : wc.cell? ⟨gb221, 0, none⟩ = some (.slice A0_0 l0_0.length c0_0) := (blk_cell BK221.out 0).trans rfl
                          have hcz23_1 : wc.cell? ⟨gb221, 1, none⟩ = some (.slice A0_1 l0_1.length c0_1) := (blk_cell BK221.out 1).trans rfl
                          have hcz23_2 : wc.cell? ⟨gb221, 2, none⟩ = some (.int .i64 a0_2) := (blk_cell BK221.out 2).trans rfl
                          have hfz23_0 := blk_frozen BK221.out 0
                          have hfz23_1 := blk_frozen BK221.out 1
                          have hfz23_2 := blk_frozen BK221.out 2
                          go_wp2
                          go_meet
                          case rel => exact ⟨_, (true), (by first | rfl | (simp; done) | (simp [*]; done)), H', ⟨by have := HJ3.out; have := HK2.out; have := HJ15.out; first | omega | exact Nat.le_refl _⟩, ⟨by (with_reducible repeat (first | apply Kd.R_alloc | apply Kd.R_drewN | apply Kd.R_drew)); exact HO_3.out⟩, ⟨by (with_reducible repeat (first | refine blk_drewN ?_ _ | refine blk_drew ?_ | refine blk_alloc ?_ _)); exact BK221.out⟩, ⟨by repeat (first | (with_reducible first | exact HB.out | apply below_alloc | apply pw_below_drewN | apply below_drew1 | refine below_set ?_ GE221.out) | exact HB.out)⟩⟩
                        · rw [if_neg c22] at H
                          have c22b0 : (((rd_T32 t222 x6_2).f1) == (l0_0.length : Int)) = false := beq_eq_false_iff_ne.mpr c22
                          have c22b1 : (((rd_T32 t222 x6_2).f1) != (l0_0.length : Int)) = true := bne_iff_ne.mpr c22
                          (first | rw [c22b0] | (simp only [i64_w, i32_w]; rw [c22b0]) | skip)
                          obtain ⟨ji24, hji24⟩ : ∃ j_ : Int, (wrap64 (((rd_T32 t222 x6_2).f1) - 1)) = j_ := ⟨_, rfl⟩
                          replace H : (if 0 ≤ (ji24) then (if (ji24) < (l0_1.length : Int) then (frisketlaw17_FillLong.j3 kj15 t222 x6_2 ((rd_T32 t222 x6_2).f1) ((rd l0_1 (ji24)) == 2) l0_0 l0_1 a0_2) else (none)) else (none)) = some r := by first | (rw [hji24] at H; exact H) | (simp only [hji24] at H ⊢; exact H)
                          have hji24w : (IntKind.i64.wrap (((rd_T32 t222 x6_2).f1) - 1)) = ji24 := (i64_w _).trans hji24
                          by_cases c25 : 0 ≤ (ji24)
                          · rw [if_pos c25] at H
                            have c25b0 : decide (0 ≤ (ji24)) = true := decide_eq_true c25
                            clear c25
                            by_cases c26 : (ji24) < (l0_1.length : Int)
                            · rw [if_pos c26] at H
                              have c26b0 : decide ((ji24) < (l0_1.length : Int)) = true := decide_eq_true c26
                              clear c26
                              have H' := Aside0.mk H
                              clear H
                              have hcz27_0 : wc.cell? ⟨gb221, 0, none⟩ = some (.slice A0_0 l0_0.length c0_0) := (blk_cell BK221.out 0).trans rfl
                              have hcz27_1 : wc.cell? ⟨gb221, 1, none⟩ = some (.slice A0_1 l0_1.length c0_1) := (blk_cell BK221.out 1).trans rfl
                              have hcz27_2 : wc.cell? ⟨gb221, 2, none⟩ = some (.int .i64 a0_2) := (blk_cell BK221.out 2).trans rfl
                              have hfz27_0 := blk_frozen BK221.out 0
                              have hfz27_1 := blk_frozen BK221.out 1
                              have hfz27_2 := blk_frozen BK221.out 2
                              have p230 : 0 ≤ ((ji24) : Int) := of_decide_eq_true (by first | (with_reducible assumption) | assumption)
                              have q230 : (ji24) < (l0_1.length : Int) := of_decide_eq_true (by first | (with_reducible assumption) | assumption)
                              obtain ⟨ad230, e230, hx230_0⟩ := Kd.at_int HR0_1.out (ji24) p230 q230
                              cases e230
                              replace hx230_0 := (HB.out.cell (World.block_lt_of_cell? w _ hx230_0)).trans hx230_0
                              replace p230 := eq_true p230
                              replace q230 := eq_true q230
                              go_wp2
                              go_meet
                              case rel => exact ⟨_, (((rd l0_1 (ji24)) == 2)), (by first | rfl | (simp; done) | (simp only [← hji24] <;> (first | rfl | simp)) | (simp [*]; done)), H', ⟨by have := HJ3.out; have := HK2.out; have := HJ15.out; first | omega | exact Nat.le_refl _⟩, ⟨by (with_reducible repeat (first | apply Kd.R_alloc | apply Kd.R_drewN | apply Kd.R_drew)); exact HO_3.out⟩, ⟨by (with_reducible repeat (first | refine blk_drewN ?_ _ | refine blk_drew ?_ | refine blk_alloc ?_ _)); exact BK221.out⟩, ⟨by repeat (first | (with_reducible first | exact HB.out | apply below_alloc | apply pw_below_drewN | apply below_drew1 | refine below_set ?_ GE221.out) | exact HB.out)⟩⟩
                            · rw [if_neg c26] at H
                              exact absurd H (by simp)
                          · rw [if_neg c25] at H
                            exact absurd H (by simp)
                      case rest =>
                        clear HC21
                        try clear c1
                        try clear c2
                        try clear p2
                        try clear q2
                        try clear hx2
                        try clear c6
                        try clear p6
                        try clear c7
                        try clear c8
                        try clear c9
                        try clear c10
                        try clear c11
                        try clear c14
                        try clear c14b0
                        try clear c15
                        try clear c15b0
                        try clear c18
                        try clear c18b0
                        try clear c20
                        try clear c22
                        try clear c22b0
                        try clear c22b1
                        try clear p22
                        try clear q22
                        try clear hx22
                        try clear p23
                        try clear q23
                        try clear hx23
                        try clear c25
                        try clear c25b0
                        try clear c26
                        try clear c26b0
                        try clear hcz19_0
                        try clear hcz19_1
                        try clear hcz19_2
                        try clear hcz23_0
                        try clear hcz23_1
                        try clear hcz23_2
                        try clear hcz27_0
                        try clear hcz27_1
                        try clear hcz27_2
                        try clear hcz6_0
                        try clear hcz6_1
                        try clear hcz6_2
                        try clear hcz8_0
                        try clear hcz8_1
                        try clear hcz8_2
                        try clear hfz19_0
                        try clear hfz19_1
                        try clear hfz19_2
                        try clear hfz23_0
                        try clear hfz23_1
                        try clear hfz23_2
                        try clear hfz27_0
                        try clear hfz27_1
                        try clear hfz27_2
                        try clear hfz6_0
                        try clear hfz6_1
                        try clear hfz6_2
                        try clear hfz8_0
                        try clear hfz8_1
                        try clear hfz8_2
                        try clear hx229_0
                        try clear hx229_1
                        try clear hx229_2
                        try clear hx229_3
                        try clear hx230_0
                        try clear p2
                        try clear p229
                        try clear p230
                        try clear q2
                        try clear q229
                        try clear q230
                        obtain ⟨kq, x62_20, rfl, HA, HJ20, HO_3, BK221, HB⟩ := hcut
                        cases kq with
                        | zero => exact absurd HA.out (by simp [frisketlaw17_FillLong.j3])
                        | succ kj20 =>
                          have H := HA.out
                          clear HA
                          simp only [frisketlaw17_FillLong.j3] at H
                          by_cases c28 : x62_20 = true
                          · subst c28
                            have H1 : (frisketlaw17_FillLong.l0 kj20 t222 (wrap64 (x6_2 + 1)) l0_0 l0_1 a0_2) = some r := by rw [if_pos rfl] at H; exact H
                            clear H
                            have H := H1
                            clear H1
                            have H' := Aside0.mk H
                            clear H
                            go_wp2
                            go_roundg kj20
                            case measure => have := HJ3.out; have := HK2.out; have := HJ15.out; have := HJ20.out; omega
                            case rel => exact ⟨(wrap64 (x6_2 + 1)), (by first | rfl | (simp; done) | (simp [*]; done)), H', ⟨by have := HJ3.out; have := HK2.out; have := HJ15.out; have := HJ20.out; omega⟩, ⟨by (with_reducible repeat (first | apply Kd.R_alloc | apply Kd.R_drewN | apply Kd.R_drew)); exact HO_3.out⟩, ⟨by (with_reducible repeat (first | refine blk_drewN ?_ _ | refine blk_drew ?_ | refine blk_alloc ?_ _)); exact BK221.out⟩, ⟨by repeat (first | (with_reducible first | exact HB.out | apply below_alloc | apply pw_below_drewN | apply below_drew1 | refine below_set ?_ GE221.out) | exact HB.out)⟩⟩
                          · replace c28 := Bool.eq_false_iff.mpr c28
                            subst c28
                            have H1 : (frisketlaw17_FillLong.l1 kj20 t222 x6_2 ((rd_T32 t222 x6_2).f1) (wrap64 (((rd_T32 t222 x6_2).f1) + 1)) l0_0 l0_1 a0_2) = some r := by rw [if_neg (show ¬ (false = true) by decide)] at H; exact H
                            clear H
                            have H := H1
                            clear H1
                            have HC29 := Aside0.mk H
                            clear H
                            go_upto_block 2 with (fail)
                            go_cut [8] (fun v8 wc => ∃ (kq : Nat) (x8_28 : Int), v8 = .int .i64 x8_28 ∧ Aside0 (frisketlaw17_FillLong.j5 kq t222 x6_2 ((rd_T32 t222 x6_2).f1) x8_28 l0_0 l0_1 a0_2 = some r) ∧ Aside0 (kq ≤ kj20) ∧ Aside0 (Kd.R k32 32 wc w.heap.size (fun _ => True) (.slice (some ad229) t222.length co17) t222) ∧ Aside0 (wc.heap[gb221]? = some (.cells #[(.slice A0_0 l0_0.length c0_0), (.slice A0_1 l0_1.length c0_1), .int .i64 a0_2] 24 (0, 0))) ∧ Aside0 (Below w.heap.size w wc))
                            case first =>
                              have H := HC29.out
                              clear HC29
                              have H' := Aside0.mk H
                              clear H
                              go_wp2
                              go_loopg [8] kj20 (fun kq v8 w' => ∃ (x8_5 : Int), v8 = .int .i64 x8_5 ∧ Aside0 (frisketlaw17_FillLong.l1 kq t222 x6_2 ((rd_T32 t222 x6_2).f1) x8_5 l0_0 l0_1 a0_2 = some r) ∧ Aside0 (kq ≤ kj20) ∧ Aside0 (Kd.R k32 32 w' w.heap.size (fun _ => True) (.slice (some ad229) t222.length co17) t222) ∧ Aside0 (w'.heap[gb221]? = some (.cells #[(.slice A0_0 l0_0.length c0_0), (.slice A0_1 l0_1.length c0_1), .int .i64 a0_2] 24 (0, 0))) ∧ Aside0 (Below w.heap.size w w'))
                              case atStart => exact ⟨(wrap64 (((rd_T32 t222 x6_2).f1) + 1)), (by first | rfl | (simp; done) | (simp [*]; done)), H', ⟨Nat.le_refl _⟩, ⟨by (with_reducible repeat (first | apply Kd.R_alloc | apply Kd.R_drewN | apply Kd.R_drew)); exact HO_3.out⟩, ⟨by (with_reducible repeat (first | refine blk_drewN ?_ _ | refine blk_drew ?_ | refine blk_alloc ?_ _)); exact BK221.out⟩, ⟨by repeat (first | (with_reducible first | exact HB.out | apply below_alloc | apply pw_below_drewN | apply below_drew1 | refine below_set ?_ GE221.out) | exact HB.out)⟩⟩
                              case round =>
                                clear H'
                                try clear c1
                                try clear c2
                                try clear p2
                                try clear q2
                                try clear hx2
                                try clear c6
                                try clear p6
                                try clear c7
                                try clear c8
                                try clear c9
                                try clear c10
                                try clear c11
                                try clear c14
                                try clear c14b0
                                try clear c15
                                try clear c15b0
                                try clear c18
                                try clear c18b0
                                try clear c20
                                try clear c22
                                try clear c22b0
                                try clear c22b1
                                try clear p22
                                try clear q22
                                try clear hx22
                                try clear p23
                                try clear q23
                                try clear hx23
                                try clear c25
                                try clear c25b0
                                try clear c26
                                try clear c26b0
                                try clear c28
                                try clear hcz19_0
                                try clear hcz19_1
                                try clear hcz19_2
                                try clear hcz23_0
                                try clear hcz23_1
                                try clear hcz23_2
                                try clear hcz27_0
                                try clear hcz27_1
                                try clear hcz27_2
                                try clear hcz6_0
                                try clear hcz6_1
                                try clear hcz6_2
                                try clear hcz8_0
                                try clear hcz8_1
                                try clear hcz8_2
                                try clear hfz19_0
                                try clear hfz19_1
                                try clear hfz19_2
                                try clear hfz23_0
                                try clear hfz23_1
                                try clear hfz23_2
                                try clear hfz27_0
                                try clear hfz27_1
                                try clear hfz27_2
                                try clear hfz6_0
                                try clear hfz6_1
                                try clear hfz6_2
                                try clear hfz8_0
                                try clear hfz8_1
                                try clear hfz8_2
                                try clear hx229_0
                                try clear hx229_1
                                try clear hx229_2
                                try clear hx229_3
                                try clear hx230_0
                                try clear p2
                                try clear p22
                                try clear p229
                                try clear p23
                                try clear p230
                                try clear p6
                                try clear q2
                                try clear q22
                                try clear q229
                                try clear q23
                                try clear q230
                                obtain ⟨x8_5, rfl, HA, HK5, HO_3, BK221, HB⟩ := hrel
                                cases gk with
                                | zero => exact absurd HA.out (by simp [frisketlaw17_FillLong.l1])
                                | succ k5 =>
                                  have H := HA.out
                                  clear HA
                                  simp only [frisketlaw17_FillLong.l1] at H
                                  by_cases c30 : x8_5 < (l0_0.length : Int)
                                  · rw [if_pos c30] at H
                                    have c30b0 : decide (x8_5 < (l0_0.length : Int)) = true := decide_eq_true c30
                                    clear c30
                                    (first | rw [c30b0] | (simp only [i64_w, i32_w]; rw [c30b0]) | skip)
                                    obtain ⟨ji31, hji31⟩ : ∃ j_ : Int, (wrap64 (x8_5 - 1)) = j_ := ⟨_, rfl⟩
                                    replace H : (if 0 ≤ (ji31) then (if (ji31) < (l0_1.length : Int) then (if (rd l0_1 (ji31)) = 0 then (frisketlaw17_FillLong.l1 k5 t222 x6_2 ((rd_T32 t222 x6_2).f1) (wrap64 (x8_5 + 1)) l0_0 l0_1 a0_2) else (frisketlaw17_FillLong.j5 k5 t222 x6_2 ((rd_T32 t222 x6_2).f1) x8_5 l0_0 l0_1 a0_2)) else (none)) else (none)) = some r := by first | (rw [hji31] at H; exact H) | (simp only [hji31] at H ⊢; exact H)
                                    have hji31w : (IntKind.i64.wrap (x8_5 - 1)) = ji31 := (i64_w _).trans hji31
                                    by_cases c32 : 0 ≤ (ji31)
                                    · rw [if_pos c32] at H
                                      have c32b0 : decide (0 ≤ (ji31)) = true := decide_eq_true c32
                                      clear c32
                                      by_cases c33 : (ji31) < (l0_1.length : Int)
                                      · rw [if_pos c33] at H
                                        have c33b0 : decide ((ji31) < (l0_1.length : Int)) = true := decide_eq_true c33
                                        clear c33
                                        by_cases c34 : (rd l0_1 (ji31)) = 0
                                        · rw [if_pos c34] at H
                                          have c34b0 : ((rd l0_1 (ji31)) == 0) = true := beq_iff_eq.mpr c34
                                          have c34b1 : ((rd l0_1 (ji31)) != 0) = false := bne_eq_false_iff_eq.mpr c34
                                          clear c34
                                          have H' := Aside0.mk H
                                          clear H
                                          have hcz35_0 : wr.cell? ⟨gb221, 0, none⟩ = some (.slice A0_0 l0_0.length c0_0) := (blk_cell BK221.out 0).trans rfl
                                          have hcz35_1 : wr.cell? ⟨gb221, 1, none⟩ = some (.slice A0_1 l0_1.length c0_1) := (blk_cell BK221.out 1).trans rfl
                                          have hcz35_2 : wr.cell? ⟨gb221, 2, none⟩ = some (.int .i64 a0_2) := (blk_cell BK221.out 2).trans rfl
                                          have hfz35_0 := blk_frozen BK221.out 0
                                          have hfz35_1 := blk_frozen BK221.out 1
                                          have hfz35_2 := blk_frozen BK221.out 2
                                          have p231 : 0 ≤ ((ji31) : Int) := of_decide_eq_true (by first | (with_reducible assumption) | assumption)
                                          have q231 : (ji31) < (l0_1.length : Int) := of_decide_eq_true (by first | (with_reducible assumption) | assumption)
                                          obtain ⟨ad231, e231, hx231_0⟩ := Kd.at_int HR0_1.out (ji31) p231 q231
                                          cases e231
                                          replace hx231_0 := (HB.out.cell (World.block_lt_of_cell? w _ hx231_0)).trans hx231_0
                                          replace p231 := eq_true p231
                                          replace q231 := eq_true q231
                                          go_wp2
                                          go_roundg k5
                                          case measure => have := HJ3.out; have := HK2.out; have := HJ15.out; have := HJ20.out; have := HK5.out; omega
                                          case rel => exact ⟨(wrap64 (x8_5 + 1)), (by first | rfl | (simp; done) | (simp [*]; done)), H', ⟨by have := HJ3.out; have := HK2.out; have := HJ15.out; have := HJ20.out; have := HK5.out; omega⟩, ⟨by (with_reducible repeat (first | apply Kd.R_alloc | apply Kd.R_drewN | apply Kd.R_drew)); exact HO_3.out⟩, ⟨by (with_reducible repeat (first | refine blk_drewN ?_ _ | refine blk_drew ?_ | refine blk_alloc ?_ _)); exact BK221.out⟩, ⟨by repeat (first | (with_reducible first | exact HB.out | apply below_alloc | apply pw_below_drewN | apply below_drew1 | refine below_set ?_ GE221.out) | exact HB.out)⟩⟩
                                        · rw [if_neg c34] at H
                                          have c34b0 : ((rd l0_1 (ji31)) == 0) = false := beq_eq_false_iff_ne.mpr c34
                                          have c34b1 : ((rd l0_1 (ji31)) != 0) = true := bne_iff_ne.mpr c34
                                          have H' := Aside0.mk H
                                          clear H
                                          have hcz36_0 : wr.cell? ⟨gb221, 0, none⟩ = some (.slice A0_0 l0_0.length c0_0) := (blk_cell BK221.out 0).trans rfl
                                          have hcz36_1 : wr.cell? ⟨gb221, 1, none⟩ = some (.slice A0_1 l0_1.length c0_1) := (blk_cell BK221.out 1).trans rfl
                                          have hcz36_2 : wr.cell? ⟨gb221, 2, none⟩ = some (.int .i64 a0_2) := (blk_cell BK221.out 2).trans rfl
                                          have hfz36_0 := blk_frozen BK221.out 0
                                          have hfz36_1 := blk_frozen BK221.out 1
                                          have hfz36_2 := blk_frozen BK221.out 2
                                          have p231 : 0 ≤ ((ji31) : Int) := of_decide_eq_true (by first | (with_reducible assumption) | assumption)
                                          have q231 : (ji31) < (l0_1.length : Int) := of_decide_eq_true (by first | (with_reducible assumption) | assumption)
                                          obtain ⟨ad231, e231, hx231_0⟩ := Kd.at_int HR0_1.out (ji31) p231 q231
                                          cases e231
                                          replace hx231_0 := (HB.out.cell (World.block_lt_of_cell? w _ hx231_0)).trans hx231_0
                                          replace p231 := eq_true p231
                                          replace q231 := eq_true q231
                                          go_wp2
                                          go_meet
                                          case rel => exact ⟨_, (x8_5), (by first | rfl | (simp; done) | (simp [*]; done)), H', ⟨by have := HJ3.out; have := HK2.out; have := HJ15.out; have := HJ20.out; have := HK5.out; first | omega | exact Nat.le_refl _⟩, ⟨by (with_reducible repeat (first | apply Kd.R_alloc | apply Kd.R_drewN | apply Kd.R_drew)); exact HO_3.out⟩, ⟨by (with_reducible repeat (first | refine blk_drewN ?_ _ | refine blk_drew ?_ | refine blk_alloc ?_ _)); exact BK221.out⟩, ⟨by repeat (first | (with_reducible first | exact HB.out | apply below_alloc | apply pw_below_drewN | apply below_drew1 | refine below_set ?_ GE221.out) | exact HB.out)⟩⟩
                                      · rw [if_neg c33] at H
                                        exact absurd H (by simp)
                                    · rw [if_neg c32] at H
                                      exact absurd H (by simp)
                                  · rw [if_neg c30] at H
                                    have c30b0 : decide (x8_5 < (l0_0.length : Int)) = false := decide_eq_false c30
                                    clear c30
                                    (first | rw [c30b0] | (simp only [i64_w, i32_w]; rw [c30b0]) | skip)
                                    have H' := Aside0.mk H
                                    clear H
                                    have hcz37_0 : wr.cell? ⟨gb221, 0, none⟩ = some (.slice A0_0 l0_0.length c0_0) := (blk_cell BK221.out 0).trans rfl
                                    have hcz37_1 : wr.cell? ⟨gb221, 1, none⟩ = some (.slice A0_1 l0_1.length c0_1) := (blk_cell BK221.out 1).trans rfl
                                    have hcz37_2 : wr.cell? ⟨gb221, 2, none⟩ = some (.int .i64 a0_2) := (blk_cell BK221.out 2).trans rfl
                                    have hfz37_0 := blk_frozen BK221.out 0
                                    have hfz37_1 := blk_frozen BK221.out 1
                                    have hfz37_2 := blk_frozen BK221.out 2
                                    go_wp2
                                    go_meet
                                    case rel => exact ⟨_, (x8_5), (by first | rfl | (simp; done) | (simp [*]; done)), H', ⟨by have := HJ3.out; have := HK2.out; have := HJ15.out; have := HJ20.out; have := HK5.out; first | omega | exact Nat.le_refl _⟩, ⟨by (with_reducible repeat (first | apply Kd.R_alloc | apply Kd.R_drewN | apply Kd.R_drew)); exact HO_3.out⟩, ⟨by (with_reducible repeat (first | refine blk_drewN ?_ _ | refine blk_drew ?_ | refine blk_alloc ?_ _)); exact BK221.out⟩, ⟨by repeat (first | (with_reducible first | exact HB.out | apply below_alloc | apply pw_below_drewN | apply below_drew1 | refine below_set ?_ GE221.out) | exact HB.out)⟩⟩
                            case rest =>
                              clear HC29
                              try clear c1
                              try clear c2
                              try clear p2
                              try clear q2
                              try clear hx2
                              try clear c3
                              try clear c6
                              try clear p6
                              try clear c7
                              try clear c8
                              try clear c9
                              try clear c10
                              try clear c11
                              try clear c14
                              try clear c14b0
                              try clear c15
                              try clear c15b0
                              try clear c18
                              try clear c18b0
                              try clear c20
                              try clear c22
                              try clear c22b0
                              try clear c22b1
                              try clear p22
                              try clear q22
                              try clear hx22
                              try clear p23
                              try clear q23
                              try clear hx23
                              try clear c25
                              try clear c25b0
                              try clear c26
                              try clear c26b0
                              try clear c28
                              try clear c30
                              try clear c30b0
                              try clear c32
                              try clear c32b0
                              try clear c33
                              try clear c33b0
                              try clear c34
                              try clear c34b0
                              try clear c34b1
                              try clear hcz19_0
                              try clear hcz19_1
                              try clear hcz19_2
                              try clear hcz23_0
                              try clear hcz23_1
                              try clear hcz23_2
                              try clear hcz27_0
                              try clear hcz27_1
                              try clear hcz27_2
                              try clear hcz35_0
                              try clear hcz35_1
                              try clear hcz35_2
                              try clear hcz36_0
                              try clear hcz36_1
                              try clear hcz36_2
                              try clear hcz37_0
                              try clear hcz37_1
                              try clear hcz37_2
                              try clear hcz6_0
                              try clear hcz6_1
                              try clear hcz6_2
                              try clear hcz8_0
                              try clear hcz8_1
                              try clear hcz8_2
                              try clear hfz19_0
                              try clear hfz19_1
                              try clear hfz19_2
                              try clear hfz23_0
                              try clear hfz23_1
                              try clear hfz23_2
                              try clear hfz27_0
                              try clear hfz27_1
                              try clear hfz27_2
                              try clear hfz35_0
                              try clear hfz35_1
                              try clear hfz35_2
                              try clear hfz36_0
                              try clear hfz36_1
                              try clear hfz36_2
                              try clear hfz37_0
                              try clear hfz37_1
                              try clear hfz37_2
                              try clear hfz6_0
                              try clear hfz6_1
                              try clear hfz6_2
                              try clear hfz8_0
                              try clear hfz8_1
                              try clear hfz8_2
                              try clear hx229_0
                              try clear hx229_1
                              try clear hx229_2
                              try clear hx229_3
                              try clear hx230_0
                              try clear hx231_0
                              try clear p2
                              try clear p22
                              try clear p229
                              try clear p23
                              try clear p230
                              try clear p231
                              try clear p6
                              try clear q2
                              try clear q22
                              try clear q229
                              try clear q23
                              try clear q230
                              try clear q231
                              obtain ⟨kq, x8_28, rfl, HA, HJ28, HO_3, BK221, HB⟩ := hcut
                              cases kq with
                              | zero => exact absurd HA.out (by simp [frisketlaw17_FillLong.j5])
                              | succ kj28 =>
                                have H := HA.out
                                clear HA
                                simp only [frisketlaw17_FillLong.j5] at H
                                by_cases c38 : 0 ≤ x6_2
                                · rw [if_pos c38] at H
                                  have c38b0 : decide (0 ≤ x6_2) = true := decide_eq_true c38
                                  clear c38
                                  by_cases c39 : x6_2 < (t222.length : Int)
                                  · rw [if_pos c39] at H
                                    have c39b0 : decide (x6_2 < (t222.length : Int)) = true := decide_eq_true c39
                                    clear c39
                                    replace H := Option.bind_eq_some_iff.mp H
                                    obtain ⟨t233, A400, H⟩ := H
                                    replace H : (if t233 = true then (some false) else (if ((rd_T32 t222 x6_2).f3 = true) then ((fill_Fits.f kj28 l0_0 ((rd_T32 t222 x6_2).f0) (wrap64 (((rd_T32 t222 x6_2).f1) + 1)) a0_2).bind fun t236 => (if t236 = true then (some false) else (frisketlaw17_FillLong.l2 kj28 t222 x6_2 ((rd_T32 t222 x6_2).f1) ((rd_T32 t222 x6_2).f0) l0_0 l0_1 a0_2))) else (frisketlaw17_FillLong.l0 kj28 t222 (wrap64 (x6_2 + 1)) l0_0 l0_1 a0_2))) = some r := H
                                    have A40 := Aside0.mk A400
                                    clear A400
                                    by_cases c41 : t233 = true
                                    · subst c41
                                      have H1 : (some false) = some r := by rw [if_pos rfl] at H; exact H
                                      clear H
                                      have H := H1
                                      clear H1
                                      exact af_absurd HRT.out H (by repeat (first | exact AF.none | exact AF.false | refine AF.ite ?_ ?_ | refine AF.bind (fun _ => ?_)))
                                    · replace c41 := Bool.eq_false_iff.mpr c41
                                      subst c41
                                      have H1 : (if ((rd_T32 t222 x6_2).f3 = true) then ((fill_Fits.f kj28 l0_0 ((rd_T32 t222 x6_2).f0) (wrap64 (((rd_T32 t222 x6_2).f1) + 1)) a0_2).bind fun t236 => (if t236 = true then (some false) else (frisketlaw17_FillLong.l2 kj28 t222 x6_2 ((rd_T32 t222 x6_2).f1) ((rd_T32 t222 x6_2).f0) l0_0 l0_1 a0_2))) else (frisketlaw17_FillLong.l0 kj28 t222 (wrap64 (x6_2 + 1)) l0_0 l0_1 a0_2)) = some r := by rw [if_neg (show ¬ (false = true) by decide)] at H; exact H
                                      clear H
                                      have H := H1
                                      clear H1
                                      obtain ⟨bq42, hbq42⟩ : ∃ b_ : Bool, b_ = ((rd_T32 t222 x6_2).f3) := ⟨_, rfl⟩
                                      replace H : (if (bq42 = true) then ((fill_Fits.f kj28 l0_0 ((rd_T32 t222 x6_2).f0) (wrap64 (((rd_T32 t222 x6_2).f1) + 1)) a0_2).bind fun t236 => (if t236 = true then (some false) else (frisketlaw17_FillLong.l2 kj28 t222 x6_2 ((rd_T32 t222 x6_2).f1) ((rd_T32 t222 x6_2).f0) l0_0 l0_1 a0_2))) else (frisketlaw17_FillLong.l0 kj28 t222 (wrap64 (x6_2 + 1)) l0_0 l0_1 a0_2)) = some r := by rw [← hbq42] at H; exact H
                                      have Nbq42 := Aside0.mk hbq42
                                      clear hbq42
                                      by_cases c43 : (bq42 = true)
                                      · subst c43
                                        have H1 : ((fill_Fits.f kj28 l0_0 ((rd_T32 t222 x6_2).f0) (wrap64 (((rd_T32 t222 x6_2).f1) + 1)) a0_2).bind fun t236 => (if t236 = true then (some false) else (frisketlaw17_FillLong.l2 kj28 t222 x6_2 ((rd_T32 t222 x6_2).f1) ((rd_T32 t222 x6_2).f0) l0_0 l0_1 a0_2))) = some r := by rw [if_pos rfl] at H; exact H
                                        clear H
                                        have H := H1
                                        clear H1
                                        replace H := Option.bind_eq_some_iff.mp H
                                        obtain ⟨t236, A440, H⟩ := H
                                        replace H : (if t236 = true then (some false) else (frisketlaw17_FillLong.l2 kj28 t222 x6_2 ((rd_T32 t222 x6_2).f1) ((rd_T32 t222 x6_2).f0) l0_0 l0_1 a0_2)) = some r := H
                                        have A44 := Aside0.mk A440
                                        clear A440
                                        by_cases c45 : t236 = true
                                        · subst c45
                                          have H1 : (some false) = some r := by rw [if_pos rfl] at H; exact H
                                          clear H
                                          have H := H1
                                          clear H1
                                          exact af_absurd HRT.out H (by repeat (first | exact AF.none | exact AF.false | refine AF.ite ?_ ?_ | refine AF.bind (fun _ => ?_)))
                                        · replace c45 := Bool.eq_false_iff.mpr c45
                                          subst c45
                                          have H1 : (frisketlaw17_FillLong.l2 kj28 t222 x6_2 ((rd_T32 t222 x6_2).f1) ((rd_T32 t222 x6_2).f0) l0_0 l0_1 a0_2) = some r := by rw [if_neg (show ¬ (false = true) by decide)] at H; exact H
                                          clear H
                                          have H := H1
                                          clear H1
                                          have H' := Aside0.mk H
                                          clear H
                                          try go_wp2
                                          have n0_ := Aside0.mk (Kd.R_drew HO_3.out)
                                          have n1_ := Aside0.mk (blk_drew BK221.out)
                                          have n2_ := Aside0.mk (below_drew1 HB.out)
                                          clear HO_3
                                          clear BK221
                                          clear HB
                                          have HO_3 := n0_
                                          have BK221 := n1_
                                          have HB := n2_
                                          clear n0_ n1_ n2_
                                          have p232 : 0 ≤ (x6_2 : Int) := of_decide_eq_true (by first | (with_reducible assumption) | assumption)
                                          have q232 : x6_2 < (t222.length : Int) := of_decide_eq_true (by first | (with_reducible assumption) | assumption)
                                          obtain ⟨ad232, e232, hx232_0, hx232_1, hx232_2, hx232_3⟩ := at_T32 (Kd.R_reads' HO_3.out).2.2 x6_2 p232 q232
                                          (try rw [← Nbq42.out] at hx232_3)
                                          obtain rfl : ad229 = ad232 := (by injection e232)
                                          replace p232 := eq_true p232
                                          replace q232 := eq_true q232
                                          refine start_ (n := 11) (S := fun w' => w'.cell? ⟨gb221, 0, none⟩ = some (.slice A0_0 l0_0.length c0_0) ∧ w'.cell? ⟨gb221, 1, none⟩ = some (.slice A0_1 l0_1.length c0_1) ∧ w'.cell? ⟨gb221, 2, none⟩ = some (.int .i64 a0_2) ∧ w'.cell? (ad229.add ((x6_2).toNat * 4)) = some (.int .i64 ((rd_T32 t222 x6_2).f0)) ∧ w'.cell? ⟨(ad229.add ((x6_2).toNat * 4)).block, (ad229.add ((x6_2).toNat * 4)).off + 1, none⟩ = some (.int .i64 ((rd_T32 t222 x6_2).f1)) ∧ w'.cell? ⟨(ad229.add ((x6_2).toNat * 4)).block, (ad229.add ((x6_2).toNat * 4)).off + 2, none⟩ = some (.int .i64 ((rd_T32 t222 x6_2).f2)) ∧ w'.cell? ⟨(ad229.add ((x6_2).toNat * 4)).block, (ad229.add ((x6_2).toNat * 4)).off + 3, none⟩ = some (.bool true)) (ds := []) #[false, false, false, false, false, false, false, false, false, false, false] (by kernel_rfl) rfl rfl ⟨(blk_cell BK221.out 0).trans rfl, (blk_cell BK221.out 1).trans rfl, (blk_cell BK221.out 2).trans rfl, hx232_0, hx232_1, hx232_2, hx232_3⟩ (fun hHeld => ?_); refine with_tabW frisketlaw17_FillLong.tab15 frisketlaw17_FillLong.bits15 (fun HT_ HW_ => ?_)
                                          generalize wc.drew = w46 at HO_3 BK221 HB hx232_0 hx232_1 hx232_2 hx232_3 hHeld ⊢
                                          refine pure_ (i := 0) (N := some 81) (v := ?_) (a' := ?_) #[true, false, false, false, false, false, false, false, false, false, false] rfl rfl (any_of HT_.out (by kernel_rfl)) (fun _ _ _ h => h) (Or.inl ⟨by rfl, ?_⟩) ?_ ?_
                                          rotate_left
                                          · intro w'
                                            go_simp
                                            with_reducible rfl
                                          rotate_left
                                          · simp only [Act.put, List.setIfInBounds_toArray, List.set_cons_zero, List.set_cons_succ, i64_w, i32_w]
                                            rfl
                                          refine pure_ (i := 2) (N := some 83) (v := ?_) (a' := ?_) #[true, false, true, false, false, false, false, false, false, false, false] rfl rfl (any_of HT_.out (by kernel_rfl)) (fun _ _ _ h => h) (Or.inl ⟨by rfl, ?_⟩) ?_ ?_
                                          rotate_left
                                          · intro w'
                                            go_simp
                                            with_reducible rfl
                                          rotate_left
                                          · simp only [Act.put, List.setIfInBounds_toArray, List.set_cons_zero, List.set_cons_succ, i64_w, i32_w]
                                            rfl
                                          refine pure_ (i := 3) (N := some 84) (v := ?_) (a' := ?_) #[true, false, true, true, false, false, false, false, false, false, false] rfl rfl (any_of HT_.out (by kernel_rfl)) (fun _ _ _ h => h) (Or.inl ⟨by rfl, ?_⟩) ?_ ?_
                                          rotate_left
                                          · intro w'
                                            go_simp
                                            with_reducible rfl
                                          rotate_left
                                          · simp only [Act.put, List.setIfInBounds_toArray, List.set_cons_zero, List.set_cons_succ, i64_w, i32_w]
                                            rfl
                                          refine pure_ (i := 4) (N := some 85) (v := ?_) (a' := ?_) #[true, false, true, true, true, false, false, false, false, false, false] rfl rfl (any_of HT_.out (by kernel_rfl)) (fun _ _ _ h => h) (Or.inl ⟨by rfl, ?_⟩) ?_ ?_
                                          rotate_left
                                          · intro w'
                                            go_simp
                                            with_reducible rfl
                                          rotate_left
                                          · simp only [Act.put, List.setIfInBounds_toArray, List.set_cons_zero, List.set_cons_succ, i64_w, i32_w]
                                            rfl
                                          refine pure_ (i := 5) (N := some 86) (v := ?_) (a' := ?_) #[true, false, true, true, true, true, false, false, false, false, false] rfl rfl (any_of HT_.out (by kernel_rfl)) (fun _ _ _ h => h) (Or.inl ⟨by rfl, ?_⟩) ?_ ?_
                                          rotate_left
                                          · intro w'
                                            go_simp
                                            with_reducible rfl
                                          rotate_left
                                          · simp only [Act.put, List.setIfInBounds_toArray, List.set_cons_zero, List.set_cons_succ, i64_w, i32_w]
                                            rfl
                                          refine pure_ (i := 7) (N := some 88) (v := ?_) (a' := ?_) #[true, false, true, true, true, true, false, true, false, false, false] rfl rfl (any_of HT_.out (by kernel_rfl)) (fun _ _ _ h => h) (Or.inl ⟨by rfl, ?_⟩) ?_ ?_
                                          rotate_left
                                          · intro w'
                                            go_simp
                                            with_reducible rfl
                                          rotate_left
                                          · simp only [Act.put, List.setIfInBounds_toArray, List.set_cons_zero, List.set_cons_succ, i64_w, i32_w]
                                            rfl
                                          refine pure_ (i := 8) (N := some 89) (v := ?_) (a' := ?_) #[true, false, true, true, true, true, false, true, true, false, false] rfl rfl (any_of HT_.out (by kernel_rfl)) (fun _ _ _ h => h) (Or.inl ⟨by rfl, ?_⟩) ?_ ?_
                                          rotate_left
                                          · intro w'
                                            go_simp
                                            with_reducible rfl
                                          rotate_left
                                          · simp only [Act.put, List.setIfInBounds_toArray, List.set_cons_zero, List.set_cons_succ, i64_w, i32_w]
                                            rfl
                                          refine take_ (i := 1) (N := some 82) (v := ?_) (a' := ?_) #[true, true, true, true, true, true, false, true, true, false, false] rfl rfl (take_ofW HT_.out HW_.out (by kernel_rfl)) (fun _ _ _ h => h) (Or.inl ⟨by rfl, ?_⟩) hHeld ?_ ?_
                                          rotate_left
                                          · rintro w' ⟨s0, s1, s2, s3, s4, s5, s6⟩
                                            go_simp
                                            with_reducible rfl
                                          rotate_left
                                          · simp only [Act.put, List.setIfInBounds_toArray, List.set_cons_zero, List.set_cons_succ, i64_w, i32_w]
                                            rfl
                                          refine take_ (i := 6) (N := some 87) (v := ?_) (a' := ?_) #[true, true, true, true, true, true, true, true, true, false, false] rfl rfl (take_ofW HT_.out HW_.out (by kernel_rfl)) (fun _ _ _ h => h) (Or.inl ⟨by rfl, ?_⟩) hHeld ?_ ?_
                                          rotate_left
                                          · rintro w' ⟨s0, s1, s2, s3, s4, s5, s6⟩
                                            go_simp
                                            with_reducible rfl
                                          rotate_left
                                          · simp only [Act.put, List.setIfInBounds_toArray, List.set_cons_zero, List.set_cons_succ, i64_w, i32_w]
                                            rfl
                                          refine take_ (i := 9) (N := some 90) (v := ?_) (a' := ?_) #[true, true, true, true, true, true, true, true, true, true, false] rfl rfl (take_ofW HT_.out HW_.out (by kernel_rfl)) (fun _ _ _ h => h) (Or.inl ⟨by rfl, ?_⟩) hHeld ?_ ?_
                                          rotate_left
                                          · rintro w' ⟨s0, s1, s2, s3, s4, s5, s6⟩
                                            go_simp
                                            with_reducible rfl
                                          rotate_left
                                          · simp only [Act.put, List.setIfInBounds_toArray, List.set_cons_zero, List.set_cons_succ, i64_w, i32_w]
                                            rfl
                                          refine one_ (i := 10) (N := some 91) #[true, true, true, true, true, true, true, true, true, true, true] rfl rfl (one_of HT_.out (by kernel_rfl)) (by decide) (fun K hK => ?_)
                                          refine goes_ Try.func14 (by kernel_rfl) rfl #[.slice A0_0 l0_0.length c0_0, .int .i64 ((rd_T32 t222 x6_2).f0), .int .i64 x8_28, .int .i64 a0_2] (by rfl) rfl rfl (by (try simp only [List.map_toArray, List.map_cons, List.map_nil]); first | done | rfl | (simp only [List.length_drop, List.length_take]; rfl)) ?_
                                          with_reducible refine (fill_Fits.calls kj28 _ _ l0_0 ((rd_T32 t222 x6_2).f0) x8_28 a0_2 false _ ?side1 ?side2 A40.out).mono ?_
                                          (case side1 => repeat (first | exact (Kd.C_below HR0_0.out HB.out) | (with_reducible refine Kd.C_alloc ?_ _) | (with_reducible refine Kd.C_drewN ?_ _) | (with_reducible refine Kd.C_drew ?_)))
                                          (case side2 => exact HC0_0.out)
                                          rintro e w47 ⟨rfl, hb⟩
                                          have HS3_ := (hb.cell (World.block_lt_of_cell? _ _ (hHeld.2.2.2.1))).trans (hHeld.2.2.2.1)
                                          have HS4_ := (hb.cell (World.block_lt_of_cell? _ _ (hHeld.2.2.2.2.1))).trans (hHeld.2.2.2.2.1)
                                          have HS5_ := (hb.cell (World.block_lt_of_cell? _ _ (hHeld.2.2.2.2.2.1))).trans (hHeld.2.2.2.2.2.1)
                                          have HS6_ := (hb.cell (World.block_lt_of_cell? _ _ (hHeld.2.2.2.2.2.2))).trans (hHeld.2.2.2.2.2.2)
                                          refine ⟨_, rfl, ?_⟩
                                          have n0_ := Aside0.mk (Kd.R_below (by (with_reducible repeat (first | apply Kd.R_alloc | apply Kd.R_drewN | apply Kd.R_drew)); exact HO_3.out) hb)
                                          have n1_ := Aside0.mk (blk_below (g := gb221) (o := .cells #[.slice A0_0 l0_0.length c0_0, .slice A0_1 l0_1.length c0_1, .int .i64 a0_2] 24 (0, 0)) (by (with_reducible repeat (first | refine blk_drewN ?_ _ | refine blk_drew ?_ | refine blk_alloc ?_ _)); exact BK221.out) hb)
                                          have n2_ := Aside0.mk (below_step (by repeat (first | (with_reducible first | exact HB.out | apply below_alloc | apply pw_below_drewN | apply below_drew1 | refine below_set ?_ GE221.out) | exact HB.out)) hb)
                                          clear HO_3
                                          clear BK221
                                          clear HB
                                          have HO_3 := n0_
                                          have BK221 := n1_
                                          have HB := n2_
                                          clear n0_ n1_ n2_
                                          (try clear hb)
                                          (try clear hb2)
                                          (try clear hk)
                                          (try clear hi)
                                          refine hK.out _ _ ⟨(blk_cell BK221.out 0).trans rfl, (blk_cell BK221.out 1).trans rfl, (blk_cell BK221.out 2).trans rfl, HS3_, HS4_, HS5_, HS6_⟩ (fun hHeld => ?_)
                                          clear hK K
                                          refine norm_ (a' := ?_) ?_ ?_
                                          rotate_left
                                          · show Act.put _ (some 91) _ = _
                                            simp only [Act.put, List.setIfInBounds_toArray, List.set_cons_zero, List.set_cons_succ, i64_w, i32_w]
                                            rfl
                                          refine done_ (done_of HT_.out (by kernel_rfl)) ?_
                                          have p234 : 0 ≤ (x6_2 : Int) := of_decide_eq_true (by first | (with_reducible assumption) | assumption)
                                          have q234 : x6_2 < (t222.length : Int) := of_decide_eq_true (by first | (with_reducible assumption) | assumption)
                                          obtain ⟨ad234, e234, hx234_0, hx234_1, hx234_2, hx234_3⟩ := at_T32 (Kd.R_reads' HO_3.out).2.2 x6_2 p234 q234
                                          (try rw [← Nbq42.out] at hx234_3)
                                          obtain rfl : ad229 = ad234 := (by injection e234)
                                          replace p234 := eq_true p234
                                          replace q234 := eq_true q234
                                          try go_wp2
                                          have n0_ := Aside0.mk (Kd.R_drew HO_3.out)
                                          have n1_ := Aside0.mk (blk_drew BK221.out)
                                          have n2_ := Aside0.mk (below_drew1 HB.out)
                                          clear HO_3
                                          clear BK221
                                          clear HB
                                          have HO_3 := n0_
                                          have BK221 := n1_
                                          have HB := n2_
                                          clear n0_ n1_ n2_
                                          have p235 : 0 ≤ (x6_2 : Int) := of_decide_eq_true (by first | (with_reducible assumption) | assumption)
                                          have q235 : x6_2 < (t222.length : Int) := of_decide_eq_true (by first | (with_reducible assumption) | assumption)
                                          obtain ⟨ad235, e235, hx235_0, hx235_1, hx235_2, hx235_3⟩ := at_T32 (Kd.R_reads' HO_3.out).2.2 x6_2 p235 q235
                                          (try rw [← Nbq42.out] at hx235_3)
                                          obtain rfl : ad229 = ad235 := (by injection e235)
                                          replace p235 := eq_true p235
                                          replace q235 := eq_true q235
                                          refine start_ (n := 12) (S := fun w' => w'.cell? ⟨gb221, 0, none⟩ = some (.slice A0_0 l0_0.length c0_0) ∧ w'.cell? ⟨gb221, 1, none⟩ = some (.slice A0_1 l0_1.length c0_1) ∧ w'.cell? ⟨gb221, 2, none⟩ = some (.int .i64 a0_2) ∧ w'.cell? (ad229.add ((x6_2).toNat * 4)) = some (.int .i64 ((rd_T32 t222 x6_2).f0)) ∧ w'.cell? ⟨(ad229.add ((x6_2).toNat * 4)).block, (ad229.add ((x6_2).toNat * 4)).off + 1, none⟩ = some (.int .i64 ((rd_T32 t222 x6_2).f1)) ∧ w'.cell? ⟨(ad229.add ((x6_2).toNat * 4)).block, (ad229.add ((x6_2).toNat * 4)).off + 2, none⟩ = some (.int .i64 ((rd_T32 t222 x6_2).f2)) ∧ w'.cell? ⟨(ad229.add ((x6_2).toNat * 4)).block, (ad229.add ((x6_2).toNat * 4)).off + 3, none⟩ = some (.bool (true))) (ds := []) #[false, false, false, false, false, false, false, false, false, false, false, false] (by kernel_rfl) rfl rfl ⟨(blk_cell BK221.out 0).trans rfl, (blk_cell BK221.out 1).trans rfl, (blk_cell BK221.out 2).trans rfl, hx235_0, hx235_1, hx235_2, hx235_3⟩ (fun hHeld => ?_); refine with_tabW frisketlaw17_FillLong.tab18 frisketlaw17_FillLong.bits18 (fun HT_ HW_ => ?_)
                                          generalize w47.drew = w48 at HO_3 BK221 HB hx235_0 hx235_1 hx235_2 hx235_3 hHeld ⊢
                                          refine pure_ (i := 0) (N := some 98) (v := ?_) (a' := ?_) #[true, false, false, false, false, false, false, false, false, false, false, false] rfl rfl (any_of HT_.out (by kernel_rfl)) (fun _ _ _ h => h) (Or.inl ⟨by rfl, ?_⟩) ?_ ?_
                                          rotate_left
                                          · intro w'
                                            go_simp
                                            with_reducible rfl
                                          rotate_left
                                          · simp only [Act.put, List.setIfInBounds_toArray, List.set_cons_zero, List.set_cons_succ, i64_w, i32_w]
                                            rfl
                                          refine pure_ (i := 2) (N := some 100) (v := ?_) (a' := ?_) #[true, false, true, false, false, false, false, false, false, false, false, false] rfl rfl (any_of HT_.out (by kernel_rfl)) (fun _ _ _ h => h) (Or.inl ⟨by rfl, ?_⟩) ?_ ?_
                                          rotate_left
                                          · intro w'
                                            go_simp
                                            with_reducible rfl
                                          rotate_left
                                          · simp only [Act.put, List.setIfInBounds_toArray, List.set_cons_zero, List.set_cons_succ, i64_w, i32_w]
                                            rfl
                                          refine pure_ (i := 3) (N := some 101) (v := ?_) (a' := ?_) #[true, false, true, true, false, false, false, false, false, false, false, false] rfl rfl (any_of HT_.out (by kernel_rfl)) (fun _ _ _ h => h) (Or.inl ⟨by rfl, ?_⟩) ?_ ?_
                                          rotate_left
                                          · intro w'
                                            go_simp
                                            with_reducible rfl
                                          rotate_left
                                          · simp only [Act.put, List.setIfInBounds_toArray, List.set_cons_zero, List.set_cons_succ, i64_w, i32_w]
                                            rfl
                                          refine pure_ (i := 4) (N := some 102) (v := ?_) (a' := ?_) #[true, false, true, true, true, false, false, false, false, false, false, false] rfl rfl (any_of HT_.out (by kernel_rfl)) (fun _ _ _ h => h) (Or.inl ⟨by rfl, ?_⟩) ?_ ?_
                                          rotate_left
                                          · intro w'
                                            go_simp
                                            with_reducible rfl
                                          rotate_left
                                          · simp only [Act.put, List.setIfInBounds_toArray, List.set_cons_zero, List.set_cons_succ, i64_w, i32_w]
                                            rfl
                                          refine pure_ (i := 5) (N := some 103) (v := ?_) (a' := ?_) #[true, false, true, true, true, true, false, false, false, false, false, false] rfl rfl (any_of HT_.out (by kernel_rfl)) (fun _ _ _ h => h) (Or.inl ⟨by rfl, ?_⟩) ?_ ?_
                                          rotate_left
                                          · intro w'
                                            go_simp
                                            with_reducible rfl
                                          rotate_left
                                          · simp only [Act.put, List.setIfInBounds_toArray, List.set_cons_zero, List.set_cons_succ, i64_w, i32_w]
                                            rfl
                                          refine pure_ (i := 7) (N := some 105) (v := ?_) (a' := ?_) #[true, false, true, true, true, true, false, true, false, false, false, false] rfl rfl (any_of HT_.out (by kernel_rfl)) (fun _ _ _ h => h) (Or.inl ⟨by rfl, ?_⟩) ?_ ?_
                                          rotate_left
                                          · intro w'
                                            go_simp
                                            with_reducible rfl
                                          rotate_left
                                          · simp only [Act.put, List.setIfInBounds_toArray, List.set_cons_zero, List.set_cons_succ, i64_w, i32_w]
                                            rfl
                                          refine pure_ (i := 8) (N := some 106) (v := ?_) (a' := ?_) #[true, false, true, true, true, true, false, true, true, false, false, false] rfl rfl (any_of HT_.out (by kernel_rfl)) (fun _ _ _ h => h) (Or.inl ⟨by rfl, ?_⟩) ?_ ?_
                                          rotate_left
                                          · intro w'
                                            go_simp
                                            with_reducible rfl
                                          rotate_left
                                          · simp only [Act.put, List.setIfInBounds_toArray, List.set_cons_zero, List.set_cons_succ, i64_w, i32_w]
                                            rfl
                                          refine pure_ (i := 9) (N := some 107) (v := ?_) (a' := ?_) #[true, false, true, true, true, true, false, true, true, true, false, false] rfl rfl (any_of HT_.out (by kernel_rfl)) (fun _ _ _ h => h) (Or.inl ⟨by rfl, ?_⟩) ?_ ?_
                                          rotate_left
                                          · intro w'
                                            go_simp
                                            with_reducible rfl
                                          rotate_left
                                          · simp only [Act.put, List.setIfInBounds_toArray, List.set_cons_zero, List.set_cons_succ, i64_w, i32_w]
                                            rfl
                                          refine take_ (i := 1) (N := some 99) (v := ?_) (a' := ?_) #[true, true, true, true, true, true, false, true, true, true, false, false] rfl rfl (take_ofW HT_.out HW_.out (by kernel_rfl)) (fun _ _ _ h => h) (Or.inl ⟨by rfl, ?_⟩) hHeld ?_ ?_
                                          rotate_left
                                          · rintro w' ⟨s0, s1, s2, s3, s4, s5, s6⟩
                                            go_simp
                                            with_reducible rfl
                                          rotate_left
                                          · simp only [Act.put, List.setIfInBounds_toArray, List.set_cons_zero, List.set_cons_succ, i64_w, i32_w]
                                            rfl
                                          refine take_ (i := 6) (N := some 104) (v := ?_) (a' := ?_) #[true, true, true, true, true, true, true, true, true, true, false, false] rfl rfl (take_ofW HT_.out HW_.out (by kernel_rfl)) (fun _ _ _ h => h) (Or.inl ⟨by rfl, ?_⟩) hHeld ?_ ?_
                                          rotate_left
                                          · rintro w' ⟨s0, s1, s2, s3, s4, s5, s6⟩
                                            go_simp
                                            with_reducible rfl
                                          rotate_left
                                          · simp only [Act.put, List.setIfInBounds_toArray, List.set_cons_zero, List.set_cons_succ, i64_w, i32_w]
                                            rfl
                                          refine take_ (i := 10) (N := some 108) (v := ?_) (a' := ?_) #[true, true, true, true, true, true, true, true, true, true, true, false] rfl rfl (take_ofW HT_.out HW_.out (by kernel_rfl)) (fun _ _ _ h => h) (Or.inl ⟨by rfl, ?_⟩) hHeld ?_ ?_
                                          rotate_left
                                          · rintro w' ⟨s0, s1, s2, s3, s4, s5, s6⟩
                                            go_simp
                                            with_reducible rfl
                                          rotate_left
                                          · simp only [Act.put, List.setIfInBounds_toArray, List.set_cons_zero, List.set_cons_succ, i64_w, i32_w]
                                            rfl
                                          refine one_ (i := 11) (N := some 109) #[true, true, true, true, true, true, true, true, true, true, true, true] rfl rfl (one_of HT_.out (by kernel_rfl)) (by decide) (fun K hK => ?_)
                                          refine goes_ Try.func14 (by kernel_rfl) rfl #[.slice A0_0 l0_0.length c0_0, .int .i64 ((rd_T32 t222 x6_2).f0), .int .i64 (wrap64 (((rd_T32 t222 x6_2).f1) + 1)), .int .i64 a0_2] (by rfl) rfl rfl (by (try simp only [List.map_toArray, List.map_cons, List.map_nil]); first | done | rfl | (simp only [List.length_drop, List.length_take]; rfl)) ?_
                                          with_reducible refine (fill_Fits.calls kj28 _ _ l0_0 ((rd_T32 t222 x6_2).f0) (wrap64 (((rd_T32 t222 x6_2).f1) + 1)) a0_2 false _ ?side1 ?side2 A44.out).mono ?_
                                          (case side1 => repeat (first | exact (Kd.C_below HR0_0.out HB.out) | (with_reducible refine Kd.C_alloc ?_ _) | (with_reducible refine Kd.C_drewN ?_ _) | (with_reducible refine Kd.C_drew ?_)))
                                          (case side2 => exact HC0_0.out)
                                          rintro e w49 ⟨rfl, hb⟩
                                          have HS3_ := (hb.cell (World.block_lt_of_cell? _ _ (hHeld.2.2.2.1))).trans (hHeld.2.2.2.1)
                                          have HS4_ := (hb.cell (World.block_lt_of_cell? _ _ (hHeld.2.2.2.2.1))).trans (hHeld.2.2.2.2.1)
                                          have HS5_ := (hb.cell (World.block_lt_of_cell? _ _ (hHeld.2.2.2.2.2.1))).trans (hHeld.2.2.2.2.2.1)
                                          have HS6_ := (hb.cell (World.block_lt_of_cell? _ _ (hHeld.2.2.2.2.2.2))).trans (hHeld.2.2.2.2.2.2)
                                          refine ⟨_, rfl, ?_⟩
                                          have n0_ := Aside0.mk (Kd.R_below (by (with_reducible repeat (first | apply Kd.R_alloc | apply Kd.R_drewN | apply Kd.R_drew)); exact HO_3.out) hb)
                                          have n1_ := Aside0.mk (blk_below (g := gb221) (o := .cells #[.slice A0_0 l0_0.length c0_0, .slice A0_1 l0_1.length c0_1, .int .i64 a0_2] 24 (0, 0)) (by (with_reducible repeat (first | refine blk_drewN ?_ _ | refine blk_drew ?_ | refine blk_alloc ?_ _)); exact BK221.out) hb)
                                          have n2_ := Aside0.mk (below_step (by repeat (first | (with_reducible first | exact HB.out | apply below_alloc | apply pw_below_drewN | apply below_drew1 | refine below_set ?_ GE221.out) | exact HB.out)) hb)
                                          clear HO_3
                                          clear BK221
                                          clear HB
                                          have HO_3 := n0_
                                          have BK221 := n1_
                                          have HB := n2_
                                          clear n0_ n1_ n2_
                                          (try clear hb)
                                          (try clear hb2)
                                          (try clear hk)
                                          (try clear hi)
                                          refine hK.out _ _ ⟨(blk_cell BK221.out 0).trans rfl, (blk_cell BK221.out 1).trans rfl, (blk_cell BK221.out 2).trans rfl, HS3_, HS4_, HS5_, HS6_⟩ (fun hHeld => ?_)
                                          clear hK K
                                          refine norm_ (a' := ?_) ?_ ?_
                                          rotate_left
                                          · show Act.put _ (some 109) _ = _
                                            simp only [Act.put, List.setIfInBounds_toArray, List.set_cons_zero, List.set_cons_succ, i64_w, i32_w]
                                            rfl
                                          refine done_ (done_of HT_.out (by kernel_rfl)) ?_
                                          have p237 : 0 ≤ (x6_2 : Int) := of_decide_eq_true (by first | (with_reducible assumption) | assumption)
                                          have q237 : x6_2 < (t222.length : Int) := of_decide_eq_true (by first | (with_reducible assumption) | assumption)
                                          obtain ⟨ad237, e237, hx237_0, hx237_1, hx237_2, hx237_3⟩ := at_T32 (Kd.R_reads' HO_3.out).2.2 x6_2 p237 q237
                                          (try rw [← Nbq42.out] at hx237_3)
                                          obtain rfl : ad229 = ad237 := (by injection e237)
                                          replace p237 := eq_true p237
                                          replace q237 := eq_true q237
                                          try go_wp2
                                          go_loopg [9] kj28 (fun kq v9 w' => ∃ (x9_6 : Int), v9 = .int .i64 x9_6 ∧ Aside0 (frisketlaw17_FillLong.l2 kq t222 x6_2 ((rd_T32 t222 x6_2).f1) x9_6 l0_0 l0_1 a0_2 = some r) ∧ Aside0 (kq ≤ kj28) ∧ Aside0 (Kd.R k32 32 w' w.heap.size (fun _ => True) (.slice (some ad229) t222.length co17) t222) ∧ Aside0 (w'.heap[gb221]? = some (.cells #[(.slice A0_0 l0_0.length c0_0), (.slice A0_1 l0_1.length c0_1), .int .i64 a0_2] 24 (0, 0))) ∧ Aside0 (Below w.heap.size w w'))
                                          case atStart => exact ⟨((rd_T32 t222 x6_2).f0), (by first | rfl | (simp; done) | (simp [*]; done)), H', ⟨Nat.le_refl _⟩, ⟨by (with_reducible repeat (first | apply Kd.R_alloc | apply Kd.R_drewN | apply Kd.R_drew)); exact HO_3.out⟩, ⟨by (with_reducible repeat (first | refine blk_drewN ?_ _ | refine blk_drew ?_ | refine blk_alloc ?_ _)); exact BK221.out⟩, ⟨by repeat (first | (with_reducible first | exact HB.out | apply below_alloc | apply pw_below_drewN | apply below_drew1 | refine below_set ?_ GE221.out) | exact HB.out)⟩⟩
                                          case round =>
                                            clear H'
                                            try clear c1
                                            try clear c2
                                            try clear p2
                                            try clear q2
                                            try clear hx2
                                            try clear c3
                                            try clear c4
                                            try clear q4
                                            try clear c6
                                            try clear p6
                                            try clear c7
                                            try clear c8
                                            try clear c9
                                            try clear c10
                                            try clear c11
                                            try clear c14
                                            try clear c14b0
                                            try clear c15
                                            try clear c15b0
                                            try clear c18
                                            try clear c18b0
                                            try clear c20
                                            try clear c22
                                            try clear c22b0
                                            try clear c22b1
                                            try clear p22
                                            try clear q22
                                            try clear hx22
                                            try clear p23
                                            try clear q23
                                            try clear hx23
                                            try clear c25
                                            try clear c25b0
                                            try clear c26
                                            try clear c26b0
                                            try clear c28
                                            try clear c30
                                            try clear c30b0
                                            try clear c32
                                            try clear c32b0
                                            try clear c33
                                            try clear c33b0
                                            try clear c34
                                            try clear c34b0
                                            try clear c34b1
                                            try clear c38
                                            try clear c38b0
                                            try clear c39
                                            try clear c39b0
                                            try clear c41
                                            try clear q42
                                            try clear c43
                                            try clear c45
                                            try clear hcz19_0
                                            try clear hcz19_1
                                            try clear hcz19_2
                                            try clear hcz23_0
                                            try clear hcz23_1
                                            try clear hcz23_2
                                            try clear hcz27_0
                                            try clear hcz27_1
                                            try clear hcz27_2
                                            try clear hcz35_0
                                            try clear hcz35_1
                                            try clear hcz35_2
                                            try clear hcz36_0
                                            try clear hcz36_1
                                            try clear hcz36_2
                                            try clear hcz37_0
                                            try clear hcz37_1
                                            try clear hcz37_2
                                            try clear hcz6_0
                                            try clear hcz6_1
                                            try clear hcz6_2
                                            try clear hcz8_0
                                            try clear hcz8_1
                                            try clear hcz8_2
                                            try clear hfz19_0
                                            try clear hfz19_1
                                            try clear hfz19_2
                                            try clear hfz23_0
                                            try clear hfz23_1
                                            try clear hfz23_2
                                            try clear hfz27_0
                                            try clear hfz27_1
                                            try clear hfz27_2
                                            try clear hfz35_0
                                            try clear hfz35_1
                                            try clear hfz35_2
                                            try clear hfz36_0
                                            try clear hfz36_1
                                            try clear hfz36_2
                                            try clear hfz37_0
                                            try clear hfz37_1
                                            try clear hfz37_2
                                            try clear hfz6_0
                                            try clear hfz6_1
                                            try clear hfz6_2
                                            try clear hfz8_0
                                            try clear hfz8_1
                                            try clear hfz8_2
                                            try clear hx229_0
                                            try clear hx229_1
                                            try clear hx229_2
                                            try clear hx229_3
                                            try clear hx230_0
                                            try clear hx231_0
                                            try clear hx232_0
                                            try clear hx232_1
                                            try clear hx232_2
                                            try clear hx232_3
                                            try clear hx234_0
                                            try clear hx234_1
                                            try clear hx234_2
                                            try clear hx234_3
                                            try clear hx235_0
                                            try clear hx235_1
                                            try clear hx235_2
                                            try clear hx235_3
                                            try clear hx237_0
                                            try clear hx237_1
                                            try clear hx237_2
                                            try clear hx237_3
                                            try clear p2
                                            try clear p22
                                            try clear p229
                                            try clear p23
                                            try clear p230
                                            try clear p231
                                            try clear p232
                                            try clear p234
                                            try clear p235
                                            try clear p237
                                            try clear p6
                                            try clear q2
                                            try clear q22
                                            try clear q229
                                            try clear q23
                                            try clear q230
                                            try clear q231
                                            try clear q232
                                            try clear q234
                                            try clear q235
                                            try clear q237
                                            obtain ⟨x9_6, rfl, HA, HK6, HO_3, BK221, HB⟩ := hrel
                                            cases gk with
                                            | zero => exact absurd HA.out (by simp [frisketlaw17_FillLong.l2])
                                            | succ k6 =>
                                              have H := HA.out
                                              clear HA
                                              simp only [frisketlaw17_FillLong.l2] at H
                                              by_cases c50 : x9_6 < ((rd_T32 t222 x6_2).f1)
                                              · rw [if_pos c50] at H
                                                have c50b0 : decide (x9_6 < ((rd_T32 t222 x6_2).f1)) = true := decide_eq_true c50
                                                clear c50
                                                by_cases c51 : 0 ≤ x9_6
                                                · rw [if_pos c51] at H
                                                  have c51b0 : decide (0 ≤ x9_6) = true := decide_eq_true c51
                                                  clear c51
                                                  by_cases c52 : x9_6 < (l0_1.length : Int)
                                                  · rw [if_pos c52] at H
                                                    have c52b0 : decide (x9_6 < (l0_1.length : Int)) = true := decide_eq_true c52
                                                    clear c52
                                                    by_cases c53 : (rd l0_1 x9_6) = 0
                                                    · rw [if_pos c53] at H
                                                      have c53b0 : ((rd l0_1 x9_6) == 0) = true := beq_iff_eq.mpr c53
                                                      have c53b1 : ((rd l0_1 x9_6) != 0) = false := bne_eq_false_iff_eq.mpr c53
                                                      clear c53
                                                      have H' := Aside0.mk H
                                                      clear H
                                                      have hcz54_0 : wr.cell? ⟨gb221, 0, none⟩ = some (.slice A0_0 l0_0.length c0_0) := (blk_cell BK221.out 0).trans rfl
                                                      have hcz54_1 : wr.cell? ⟨gb221, 1, none⟩ = some (.slice A0_1 l0_1.length c0_1) := (blk_cell BK221.out 1).trans rfl
                                                      have hcz54_2 : wr.cell? ⟨gb221, 2, none⟩ = some (.int .i64 a0_2) := (blk_cell BK221.out 2).trans rfl
                                                      have hfz54_0 := blk_frozen BK221.out 0
                                                      have hfz54_1 := blk_frozen BK221.out 1
                                                      have hfz54_2 := blk_frozen BK221.out 2
                                                      have p238 : 0 ≤ (x9_6 : Int) := of_decide_eq_true (by first | (with_reducible assumption) | assumption)
                                                      have q238 : x9_6 < (l0_1.length : Int) := of_decide_eq_true (by first | (with_reducible assumption) | assumption)
                                                      obtain ⟨ad238, e238, hx238_0⟩ := Kd.at_int HR0_1.out x9_6 p238 q238
                                                      cases e238
                                                      replace hx238_0 := (HB.out.cell (World.block_lt_of_cell? w _ hx238_0)).trans hx238_0
                                                      replace p238 := eq_true p238
                                                      replace q238 := eq_true q238
                                                      go_wp2
                                                      go_roundg k6
                                                      case measure => have := HJ3.out; have := HK2.out; have := HJ15.out; have := HJ20.out; have := HJ28.out; have := HK6.out; omega
                                                      case rel => exact ⟨(wrap64 (x9_6 + 1)), (by first | rfl | (simp; done) | (simp [*]; done)), H', ⟨by have := HJ3.out; have := HK2.out; have := HJ15.out; have := HJ20.out; have := HJ28.out; have := HK6.out; omega⟩, ⟨by (with_reducible repeat (first | apply Kd.R_alloc | apply Kd.R_drewN | apply Kd.R_drew)); exact HO_3.out⟩, ⟨by (with_reducible repeat (first | refine blk_drewN ?_ _ | refine blk_drew ?_ | refine blk_alloc ?_ _)); exact BK221.out⟩, ⟨by repeat (first | (with_reducible first | exact HB.out | apply below_alloc | apply pw_below_drewN | apply below_drew1 | refine below_set ?_ GE221.out) | exact HB.out)⟩⟩
                                                    · rw [if_neg c53] at H
                                                      have c53b0 : ((rd l0_1 x9_6) == 0) = false := beq_eq_false_iff_ne.mpr c53
                                                      have c53b1 : ((rd l0_1 x9_6) != 0) = true := bne_iff_ne.mpr c53
                                                      exact af_absurd HRT.out H (by repeat (first | exact AF.none | exact AF.false | refine AF.ite ?_ ?_ | refine AF.bind (fun _ => ?_)))
                                                  · rw [if_neg c52] at H
                                                    exact absurd H (by simp)
                                                · rw [if_neg c51] at H
                                                  exact absurd H (by simp)
                                              · rw [if_neg c50] at H
                                                have c50b0 : decide (x9_6 < ((rd_T32 t222 x6_2).f1)) = false := decide_eq_false c50
                                                clear c50
                                                have H' := Aside0.mk H
                                                clear H
                                                go_wp2
                                                go_roundg k6
                                                case measure => have := HJ3.out; have := HK2.out; have := HJ15.out; have := HJ20.out; have := HJ28.out; have := HK6.out; omega
                                                case rel => exact ⟨(wrap64 (x6_2 + 1)), (by first | rfl | (simp; done) | (simp [*]; done)), H', ⟨by have := HJ3.out; have := HK2.out; have := HJ15.out; have := HJ20.out; have := HJ28.out; have := HK6.out; omega⟩, ⟨by (with_reducible repeat (first | apply Kd.R_alloc | apply Kd.R_drewN | apply Kd.R_drew)); exact HO_3.out⟩, ⟨by (with_reducible repeat (first | refine blk_drewN ?_ _ | refine blk_drew ?_ | refine blk_alloc ?_ _)); exact BK221.out⟩, ⟨by repeat (first | (with_reducible first | exact HB.out | apply below_alloc | apply pw_below_drewN | apply below_drew1 | refine below_set ?_ GE221.out) | exact HB.out)⟩⟩
                                      · replace c43 := Bool.eq_false_iff.mpr c43
                                        subst c43
                                        have H1 : (frisketlaw17_FillLong.l0 kj28 t222 (wrap64 (x6_2 + 1)) l0_0 l0_1 a0_2) = some r := by rw [if_neg (show ¬ (false = true) by decide)] at H; exact H
                                        clear H
                                        have H := H1
                                        clear H1
                                        have H' := Aside0.mk H
                                        clear H
                                        try go_wp2
                                        have n0_ := Aside0.mk (Kd.R_drew HO_3.out)
                                        have n1_ := Aside0.mk (blk_drew BK221.out)
                                        have n2_ := Aside0.mk (below_drew1 HB.out)
                                        clear HO_3
                                        clear BK221
                                        clear HB
                                        have HO_3 := n0_
                                        have BK221 := n1_
                                        have HB := n2_
                                        clear n0_ n1_ n2_
                                        have p232 : 0 ≤ (x6_2 : Int) := of_decide_eq_true (by first | (with_reducible assumption) | assumption)
                                        have q232 : x6_2 < (t222.length : Int) := of_decide_eq_true (by first | (with_reducible assumption) | assumption)
                                        obtain ⟨ad232, e232, hx232_0, hx232_1, hx232_2, hx232_3⟩ := at_T32 (Kd.R_reads' HO_3.out).2.2 x6_2 p232 q232
                                        (try rw [← Nbq42.out] at hx232_3)
                                        obtain rfl : ad229 = ad232 := (by injection e232)
                                        replace p232 := eq_true p232
                                        replace q232 := eq_true q232
                                        refine start_ (n := 11) (S := fun w' => w'.cell? ⟨gb221, 0, none⟩ = some (.slice A0_0 l0_0.length c0_0) ∧ w'.cell? ⟨gb221, 1, none⟩ = some (.slice A0_1 l0_1.length c0_1) ∧ w'.cell? ⟨gb221, 2, none⟩ = some (.int .i64 a0_2) ∧ w'.cell? (ad229.add ((x6_2).toNat * 4)) = some (.int .i64 ((rd_T32 t222 x6_2).f0)) ∧ w'.cell? ⟨(ad229.add ((x6_2).toNat * 4)).block, (ad229.add ((x6_2).toNat * 4)).off + 1, none⟩ = some (.int .i64 ((rd_T32 t222 x6_2).f1)) ∧ w'.cell? ⟨(ad229.add ((x6_2).toNat * 4)).block, (ad229.add ((x6_2).toNat * 4)).off + 2, none⟩ = some (.int .i64 ((rd_T32 t222 x6_2).f2)) ∧ w'.cell? ⟨(ad229.add ((x6_2).toNat * 4)).block, (ad229.add ((x6_2).toNat * 4)).off + 3, none⟩ = some (.bool false)) (ds := []) #[false, false, false, false, false, false, false, false, false, false, false] (by kernel_rfl) rfl rfl ⟨(blk_cell BK221.out 0).trans rfl, (blk_cell BK221.out 1).trans rfl, (blk_cell BK221.out 2).trans rfl, hx232_0, hx232_1, hx232_2, hx232_3⟩ (fun hHeld => ?_); refine with_tabW frisketlaw17_FillLong.tab15 frisketlaw17_FillLong.bits15 (fun HT_ HW_ => ?_)
                                        generalize wc.drew = w55 at HO_3 BK221 HB hx232_0 hx232_1 hx232_2 hx232_3 hHeld ⊢
                                        refine pure_ (i := 0) (N := some 81) (v := ?_) (a' := ?_) #[true, false, false, false, false, false, false, false, false, false, false] rfl rfl (any_of HT_.out (by kernel_rfl)) (fun _ _ _ h => h) (Or.inl ⟨by rfl, ?_⟩) ?_ ?_
                                        rotate_left
                                        · intro w'
                                          go_simp
                                          with_reducible rfl
                                        rotate_left
                                        · simp only [Act.put, List.setIfInBounds_toArray, List.set_cons_zero, List.set_cons_succ, i64_w, i32_w]
                                          rfl
                                        refine pure_ (i := 2) (N := some 83) (v := ?_) (a' := ?_) #[true, false, true, false, false, false, false, false, false, false, false] rfl rfl (any_of HT_.out (by kernel_rfl)) (fun _ _ _ h => h) (Or.inl ⟨by rfl, ?_⟩) ?_ ?_
                                        rotate_left
                                        · intro w'
                                          go_simp
                                          with_reducible rfl
                                        rotate_left
                                        · simp only [Act.put, List.setIfInBounds_toArray, List.set_cons_zero, List.set_cons_succ, i64_w, i32_w]
                                          rfl
                                        refine pure_ (i := 3) (N := some 84) (v := ?_) (a' := ?_) #[true, false, true, true, false, false, false, false, false, false, false] rfl rfl (any_of HT_.out (by kernel_rfl)) (fun _ _ _ h => h) (Or.inl ⟨by rfl, ?_⟩) ?_ ?_
                                        rotate_left
                                        · intro w'
                                          go_simp
                                          with_reducible rfl
                                        rotate_left
                                        · simp only [Act.put, List.setIfInBounds_toArray, List.set_cons_zero, List.set_cons_succ, i64_w, i32_w]
                                          rfl
                                        refine pure_ (i := 4) (N := some 85) (v := ?_) (a' := ?_) #[true, false, true, true, true, false, false, false, false, false, false] rfl rfl (any_of HT_.out (by kernel_rfl)) (fun _ _ _ h => h) (Or.inl ⟨by rfl, ?_⟩) ?_ ?_
                                        rotate_left
                                        · intro w'
                                          go_simp
                                          with_reducible rfl
                                        rotate_left
                                        · simp only [Act.put, List.setIfInBounds_toArray, List.set_cons_zero, List.set_cons_succ, i64_w, i32_w]
                                          rfl
                                        refine pure_ (i := 5) (N := some 86) (v := ?_) (a' := ?_) #[true, false, true, true, true, true, false, false, false, false, false] rfl rfl (any_of HT_.out (by kernel_rfl)) (fun _ _ _ h => h) (Or.inl ⟨by rfl, ?_⟩) ?_ ?_
                                        rotate_left
                                        · intro w'
                                          go_simp
                                          with_reducible rfl
                                        rotate_left
                                        · simp only [Act.put, List.setIfInBounds_toArray, List.set_cons_zero, List.set_cons_succ, i64_w, i32_w]
                                          rfl
                                        refine pure_ (i := 7) (N := some 88) (v := ?_) (a' := ?_) #[true, false, true, true, true, true, false, true, false, false, false] rfl rfl (any_of HT_.out (by kernel_rfl)) (fun _ _ _ h => h) (Or.inl ⟨by rfl, ?_⟩) ?_ ?_
                                        rotate_left
                                        · intro w'
                                          go_simp
                                          with_reducible rfl
                                        rotate_left
                                        · simp only [Act.put, List.setIfInBounds_toArray, List.set_cons_zero, List.set_cons_succ, i64_w, i32_w]
                                          rfl
                                        refine pure_ (i := 8) (N := some 89) (v := ?_) (a' := ?_) #[true, false, true, true, true, true, false, true, true, false, false] rfl rfl (any_of HT_.out (by kernel_rfl)) (fun _ _ _ h => h) (Or.inl ⟨by rfl, ?_⟩) ?_ ?_
                                        rotate_left
                                        · intro w'
                                          go_simp
                                          with_reducible rfl
                                        rotate_left
                                        · simp only [Act.put, List.setIfInBounds_toArray, List.set_cons_zero, List.set_cons_succ, i64_w, i32_w]
                                          rfl
                                        refine take_ (i := 1) (N := some 82) (v := ?_) (a' := ?_) #[true, true, true, true, true, true, false, true, true, false, false] rfl rfl (take_ofW HT_.out HW_.out (by kernel_rfl)) (fun _ _ _ h => h) (Or.inl ⟨by rfl, ?_⟩) hHeld ?_ ?_
                                        rotate_left
                                        · rintro w' ⟨s0, s1, s2, s3, s4, s5, s6⟩
                                          go_simp
                                          with_reducible rfl
                                        rotate_left
                                        · simp only [Act.put, List.setIfInBounds_toArray, List.set_cons_zero, List.set_cons_succ, i64_w, i32_w]
                                          rfl
                                        refine take_ (i := 6) (N := some 87) (v := ?_) (a' := ?_) #[true, true, true, true, true, true, true, true, true, false, false] rfl rfl (take_ofW HT_.out HW_.out (by kernel_rfl)) (fun _ _ _ h => h) (Or.inl ⟨by rfl, ?_⟩) hHeld ?_ ?_
                                        rotate_left
                                        · rintro w' ⟨s0, s1, s2, s3, s4, s5, s6⟩
                                          go_simp
                                          with_reducible rfl
                                        rotate_left
                                        · simp only [Act.put, List.setIfInBounds_toArray, List.set_cons_zero, List.set_cons_succ, i64_w, i32_w]
                                          rfl
                                        refine take_ (i := 9) (N := some 90) (v := ?_) (a' := ?_) #[true, true, true, true, true, true, true, true, true, true, false] rfl rfl (take_ofW HT_.out HW_.out (by kernel_rfl)) (fun _ _ _ h => h) (Or.inl ⟨by rfl, ?_⟩) hHeld ?_ ?_
                                        rotate_left
                                        · rintro w' ⟨s0, s1, s2, s3, s4, s5, s6⟩
                                          go_simp
                                          with_reducible rfl
                                        rotate_left
                                        · simp only [Act.put, List.setIfInBounds_toArray, List.set_cons_zero, List.set_cons_succ, i64_w, i32_w]
                                          rfl
                                        refine one_ (i := 10) (N := some 91) #[true, true, true, true, true, true, true, true, true, true, true] rfl rfl (one_of HT_.out (by kernel_rfl)) (by decide) (fun K hK => ?_)
                                        refine goes_ Try.func14 (by kernel_rfl) rfl #[.slice A0_0 l0_0.length c0_0, .int .i64 ((rd_T32 t222 x6_2).f0), .int .i64 x8_28, .int .i64 a0_2] (by rfl) rfl rfl (by (try simp only [List.map_toArray, List.map_cons, List.map_nil]); first | done | rfl | (simp only [List.length_drop, List.length_take]; rfl)) ?_
                                        with_reducible refine (fill_Fits.calls kj28 _ _ l0_0 ((rd_T32 t222 x6_2).f0) x8_28 a0_2 false _ ?side1 ?side2 A40.out).mono ?_
                                        (case side1 => repeat (first | exact (Kd.C_below HR0_0.out HB.out) | (with_reducible refine Kd.C_alloc ?_ _) | (with_reducible refine Kd.C_drewN ?_ _) | (with_reducible refine Kd.C_drew ?_)))
                                        (case side2 => exact HC0_0.out)
                                        rintro e w56 ⟨rfl, hb⟩
                                        have HS3_ := (hb.cell (World.block_lt_of_cell? _ _ (hHeld.2.2.2.1))).trans (hHeld.2.2.2.1)
                                        have HS4_ := (hb.cell (World.block_lt_of_cell? _ _ (hHeld.2.2.2.2.1))).trans (hHeld.2.2.2.2.1)
                                        have HS5_ := (hb.cell (World.block_lt_of_cell? _ _ (hHeld.2.2.2.2.2.1))).trans (hHeld.2.2.2.2.2.1)
                                        have HS6_ := (hb.cell (World.block_lt_of_cell? _ _ (hHeld.2.2.2.2.2.2))).trans (hHeld.2.2.2.2.2.2)
                                        refine ⟨_, rfl, ?_⟩
                                        have n0_ := Aside0.mk (Kd.R_below (by (with_reducible repeat (first | apply Kd.R_alloc | apply Kd.R_drewN | apply Kd.R_drew)); exact HO_3.out) hb)
                                        have n1_ := Aside0.mk (blk_below (g := gb221) (o := .cells #[.slice A0_0 l0_0.length c0_0, .slice A0_1 l0_1.length c0_1, .int .i64 a0_2] 24 (0, 0)) (by (with_reducible repeat (first | refine blk_drewN ?_ _ | refine blk_drew ?_ | refine blk_alloc ?_ _)); exact BK221.out) hb)
                                        have n2_ := Aside0.mk (below_step (by repeat (first | (with_reducible first | exact HB.out | apply below_alloc | apply pw_below_drewN | apply below_drew1 | refine below_set ?_ GE221.out) | exact HB.out)) hb)
                                        clear HO_3
                                        clear BK221
                                        clear HB
                                        have HO_3 := n0_
                                        have BK221 := n1_
                                        have HB := n2_
                                        clear n0_ n1_ n2_
                                        (try clear hb)
                                        (try clear hb2)
                                        (try clear hk)
                                        (try clear hi)
                                        refine hK.out _ _ ⟨(blk_cell BK221.out 0).trans rfl, (blk_cell BK221.out 1).trans rfl, (blk_cell BK221.out 2).trans rfl, HS3_, HS4_, HS5_, HS6_⟩ (fun hHeld => ?_)
                                        clear hK K
                                        refine norm_ (a' := ?_) ?_ ?_
                                        rotate_left
                                        · show Act.put _ (some 91) _ = _
                                          simp only [Act.put, List.setIfInBounds_toArray, List.set_cons_zero, List.set_cons_succ, i64_w, i32_w]
                                          rfl
                                        refine done_ (done_of HT_.out (by kernel_rfl)) ?_
                                        have p234 : 0 ≤ (x6_2 : Int) := of_decide_eq_true (by first | (with_reducible assumption) | assumption)
                                        have q234 : x6_2 < (t222.length : Int) := of_decide_eq_true (by first | (with_reducible assumption) | assumption)
                                        obtain ⟨ad234, e234, hx234_0, hx234_1, hx234_2, hx234_3⟩ := at_T32 (Kd.R_reads' HO_3.out).2.2 x6_2 p234 q234
                                        (try rw [← Nbq42.out] at hx234_3)
                                        obtain rfl : ad229 = ad234 := (by injection e234)
                                        replace p234 := eq_true p234
                                        replace q234 := eq_true q234
                                        try go_wp2
                                        go_roundg kj28
                                        case measure => have := HJ3.out; have := HK2.out; have := HJ15.out; have := HJ20.out; have := HJ28.out; omega
                                        case rel => exact ⟨(wrap64 (x6_2 + 1)), (by first | rfl | (simp; done) | (simp [*]; done)), H', ⟨by have := HJ3.out; have := HK2.out; have := HJ15.out; have := HJ20.out; have := HJ28.out; omega⟩, ⟨by (with_reducible repeat (first | apply Kd.R_alloc | apply Kd.R_drewN | apply Kd.R_drew)); exact HO_3.out⟩, ⟨by (with_reducible repeat (first | refine blk_drewN ?_ _ | refine blk_drew ?_ | refine blk_alloc ?_ _)); exact BK221.out⟩, ⟨by repeat (first | (with_reducible first | exact HB.out | apply below_alloc | apply pw_below_drewN | apply below_drew1 | refine below_set ?_ GE221.out) | exact HB.out)⟩⟩
                                  · rw [if_neg c39] at H
                                    exact absurd H (by simp)
                                · rw [if_neg c38] at H
                                  exact absurd H (by simp)
              · rw [if_neg c15] at H
                exact absurd H (by simp)
            · rw [if_neg c14] at H
              have c14b0 : decide (x6_2 < (t222.length : Int)) = false := decide_eq_false c14
              clear c14
              replace H := Option.bind_eq_some_iff.mp H
              obtain ⟨t228, A570, H⟩ := H
              replace H : (some t228) = some r := H
              have A57 := Aside0.mk A570
              clear A570
              obtain rfl := Option.some.inj H
              obtain ⟨Ao58, co58, eo58⟩ := Kd.R_slice HO_3.out
              subst eo58
              go_wp2_with (first | ((with_reducible refine gate_callee (f := 9) rfl ?_); refine goesL_ (some 126) rfl rfl Try.func9 (by kernel_rfl) rfl #[] rfl (by (try simp only [List.map_toArray, List.map_cons, List.map_nil]); first | done | rfl | (simp only [List.length_drop, List.length_take]; rfl)) ?_; (with_reducible refine (frisketlaw17_alive.calls  t228 _ A57.out).mono ?_); rintro e w59 ⟨rfl, hb⟩; refine ⟨_, rfl, ?_⟩; have n0_ := Aside0.mk (Kd.R_below (by (with_reducible repeat (first | apply Kd.R_alloc | apply Kd.R_drewN | apply Kd.R_drew)); exact HO_3.out) hb); have n1_ := Aside0.mk (blk_below (g := gb221) (o := .cells #[.slice A0_0 l0_0.length c0_0, .slice A0_1 l0_1.length c0_1, .int .i64 a0_2] 24 (0, 0)) (by (with_reducible repeat (first | refine blk_drewN ?_ _ | refine blk_drew ?_ | refine blk_alloc ?_ _)); exact BK221.out) hb); have n2_ := Aside0.mk (below_step (by repeat (first | (with_reducible first | exact HB.out | apply below_alloc | apply pw_below_drewN | apply below_drew1 | refine below_set ?_ GE221.out) | exact HB.out)) hb); clear HO_3; clear BK221; clear HB; have HO_3 := n0_; have BK221 := n1_; have HB := n2_; clear n0_ n1_ n2_; (try clear hb); (try clear hb2); (try clear hk); (try clear hi)))
              go_ret
              exact ⟨by first | rfl | (simp [errW_none, errW_some] <;> rfl) | (simp [*, errW_none, errW_some] <;> rfl), by repeat (first | (with_reducible first | exact HB.out | apply below_alloc | apply pw_below_drewN | apply below_drew1 | refine below_set ?_ GE221.out) | exact HB.out)⟩

end Go.Proofs.Yteeoomenncocpaa.P
