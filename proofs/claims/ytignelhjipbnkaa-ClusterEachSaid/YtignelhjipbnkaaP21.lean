/- Written by wip/tools/gprint.py of this repo over the translation: Lean functions that answer as the Go functions named below do, and the proof of it; the conditions stand in each theorem. -/
import Derived.Test.YtignelhjipbnkaaP0
import Derived.Test.YtignelhjipbnkaaP16
import Derived.Test.YtignelhjipbnkaaP18
import Derived.Test.YtignelhjipbnkaaP19
import Derived.Test.YtignelhjipbnkaaP20
namespace Go.Proofs.Ytignelhjipbnkaa.P
open Go.RowKit Go.Proofs.YtignelhjipbnkaaW.PrintWords Go.Proofs.YtignelhjipbnkaaW.PrintLast Go.Proofs.YtignelhjipbnkaaW.PrintMore
attribute [local go_sem] max2_int min2_int max_two min_two max_three min_three max_four min_four   -- for this text's walks alone
set_option linter.unusedVariables false
set_option linter.unusedSimpArgs false

/-! ### frisketref05_Break: function 12 -/
mutual
def frisketref05_Break.j0 : Nat → List Int → Int → Bool → Option (Bool)
  | 0, _, _, _ => none
  | k + 1, x0, x1, x24 => if x24 = true then (some false) else (if x1 = 0 then (frisketref05_Break.j1 k x0 x1 true) else (frisketref05_Break.j1 k x0 x1 (x1 == (x0.length : Int))))
def frisketref05_Break.j1 : Nat → List Int → Int → Bool → Option (Bool)
  | 0, _, _, _ => none
  | k + 1, x0, x1, x32 => if x32 = true then (some true) else (if 0 ≤ (wrap64 (x1 - 1)) then (if (wrap64 (x1 - 1)) < (x0.length : Int) then (if 0 ≤ x1 then (if x1 < (x0.length : Int) then (if (rd x0 (wrap64 (x1 - 1))) = 1 then (frisketref05_Break.j2 k x0 x1 (rd x0 (wrap64 (x1 - 1))) (rd x0 x1) ((rd x0 x1) == 2)) else (frisketref05_Break.j2 k x0 x1 (rd x0 (wrap64 (x1 - 1))) (rd x0 x1) false)) else (none)) else (none)) else (none)) else (none))
def frisketref05_Break.j2 : Nat → List Int → Int → Int → Int → Bool → Option (Bool)
  | 0, _, _, _, _, _ => none
  | k + 1, x0, x1, x5, x6, x47 => if x47 = true then (some false) else ((frisketref05_ends.f x5).bind fun t152 => ((frisketref05_ends.f x6).bind fun t153 => (if t152 = true then (frisketref05_Break.j3 k x0 x1 x5 x6 true) else (frisketref05_Break.j3 k x0 x1 x5 x6 t153))))
def frisketref05_Break.j3 : Nat → List Int → Int → Int → Int → Bool → Option (Bool)
  | 0, _, _, _, _, _ => none
  | k + 1, x0, x1, x5, x6, x55 => if x55 = true then (some true) else ((frisketref05_hangul.f k x5 x6).bind fun t154 => (if t154 = true then (frisketref05_Break.j4 k x0 x1 x5 x6 true) else (if x6 = 4 then (frisketref05_Break.j4 k x0 x1 x5 x6 true) else (if x6 = 5 then (frisketref05_Break.j4 k x0 x1 x5 x6 true) else (if x6 = 8 then (frisketref05_Break.j4 k x0 x1 x5 x6 true) else (frisketref05_Break.j4 k x0 x1 x5 x6 (x5 == 7)))))))
def frisketref05_Break.j4 : Nat → List Int → Int → Int → Int → Bool → Option (Bool)
  | 0, _, _, _, _, _ => none
  | k + 1, x0, x1, x5, x6, x75 => if x75 = true then (some false) else (if x6 = 14 then ((frisketref05_picture.f k x0 (wrap64 (x1 - 1))).bind fun t155 => (some (!t155))) else (if x5 = 6 then (if x6 = 6 then ((frisketref05_odd.f k x0 (wrap64 (x1 - 1))).bind fun t156 => (some (!t156))) else (some true)) else (some true)))
end
def frisketref05_Break.f (k : Nat) (l0 : List Int) (a1 : Int) : Option (Bool) := if a1 < 0 then (frisketref05_Break.j0 k l0 a1 true) else (if a1 > (l0.length : Int) then (frisketref05_Break.j0 k l0 a1 true) else (frisketref05_Break.j0 k l0 a1 ((l0.length : Int) == 0)))
theorem frisketref05_Break.mono_l : ∀ k, (∀ y0 y1 y2, LeO (frisketref05_Break.j0 k y0 y1 y2) (frisketref05_Break.j0 (k + 1) y0 y1 y2)) ∧ (∀ y0 y1 y2, LeO (frisketref05_Break.j1 k y0 y1 y2) (frisketref05_Break.j1 (k + 1) y0 y1 y2)) ∧ (∀ y0 y1 y2 y3 y4, LeO (frisketref05_Break.j2 k y0 y1 y2 y3 y4) (frisketref05_Break.j2 (k + 1) y0 y1 y2 y3 y4)) ∧ (∀ y0 y1 y2 y3 y4, LeO (frisketref05_Break.j3 k y0 y1 y2 y3 y4) (frisketref05_Break.j3 (k + 1) y0 y1 y2 y3 y4)) ∧ (∀ y0 y1 y2 y3 y4, LeO (frisketref05_Break.j4 k y0 y1 y2 y3 y4) (frisketref05_Break.j4 (k + 1) y0 y1 y2 y3 y4))
  | 0 => ⟨fun _ _ _ r h => by simp [frisketref05_Break.j0] at h, fun _ _ _ r h => by simp [frisketref05_Break.j1] at h, fun _ _ _ _ _ r h => by simp [frisketref05_Break.j2] at h, fun _ _ _ _ _ r h => by simp [frisketref05_Break.j3] at h, fun _ _ _ _ _ r h => by simp [frisketref05_Break.j4] at h⟩
  | k + 1 => by
    obtain ⟨ih0, ih1, ih2, ih3, ih4⟩ := frisketref05_Break.mono_l k
    refine ⟨?_, ?_, ?_, ?_, ?_⟩
    · intro y0 y1 y2
      unfold frisketref05_Break.j0
      repeat' first
      | (with_reducible exact ih0 _ _ _)
      | (with_reducible exact ih1 _ _ _)
      | (with_reducible exact ih2 _ _ _ _ _)
      | (with_reducible exact ih3 _ _ _ _ _)
      | (with_reducible exact ih4 _ _ _ _ _)
      | (with_reducible exact frisketref05_hangul.mono _ _ _)
      | (with_reducible exact frisketref05_odd.mono _ _ _)
      | (with_reducible exact frisketref05_picture.mono _ _ _)
      | (with_reducible exact LeO.refl _)
      | (with_reducible exact LeO.none _)
      | (with_reducible refine LeO.ite ?_ ?_)
      | (with_reducible refine LeO.bind ?_ (fun _ => ?_))
      | exact ih0 _ _ _
      | exact ih1 _ _ _
      | exact ih2 _ _ _ _ _
      | exact ih3 _ _ _ _ _
      | exact ih4 _ _ _ _ _
      | exact frisketref05_hangul.mono _ _ _
      | exact frisketref05_odd.mono _ _ _
      | exact frisketref05_picture.mono _ _ _
      | exact LeO.none _
      | refine LeO.ite ?_ ?_
      | refine LeO.bind ?_ (fun _ => ?_)
    · intro y0 y1 y2
      unfold frisketref05_Break.j1
      repeat' first
      | (with_reducible exact ih0 _ _ _)
      | (with_reducible exact ih1 _ _ _)
      | (with_reducible exact ih2 _ _ _ _ _)
      | (with_reducible exact ih3 _ _ _ _ _)
      | (with_reducible exact ih4 _ _ _ _ _)
      | (with_reducible exact frisketref05_hangul.mono _ _ _)
      | (with_reducible exact frisketref05_odd.mono _ _ _)
      | (with_reducible exact frisketref05_picture.mono _ _ _)
      | (with_reducible exact LeO.refl _)
      | (with_reducible exact LeO.none _)
      | (with_reducible refine LeO.ite ?_ ?_)
      | (with_reducible refine LeO.bind ?_ (fun _ => ?_))
      | exact ih0 _ _ _
      | exact ih1 _ _ _
      | exact ih2 _ _ _ _ _
      | exact ih3 _ _ _ _ _
      | exact ih4 _ _ _ _ _
      | exact frisketref05_hangul.mono _ _ _
      | exact frisketref05_odd.mono _ _ _
      | exact frisketref05_picture.mono _ _ _
      | exact LeO.none _
      | refine LeO.ite ?_ ?_
      | refine LeO.bind ?_ (fun _ => ?_)
    · intro y0 y1 y2 y3 y4
      unfold frisketref05_Break.j2
      repeat' first
      | (with_reducible exact ih0 _ _ _)
      | (with_reducible exact ih1 _ _ _)
      | (with_reducible exact ih2 _ _ _ _ _)
      | (with_reducible exact ih3 _ _ _ _ _)
      | (with_reducible exact ih4 _ _ _ _ _)
      | (with_reducible exact frisketref05_hangul.mono _ _ _)
      | (with_reducible exact frisketref05_odd.mono _ _ _)
      | (with_reducible exact frisketref05_picture.mono _ _ _)
      | (with_reducible exact LeO.refl _)
      | (with_reducible exact LeO.none _)
      | (with_reducible refine LeO.ite ?_ ?_)
      | (with_reducible refine LeO.bind ?_ (fun _ => ?_))
      | exact ih0 _ _ _
      | exact ih1 _ _ _
      | exact ih2 _ _ _ _ _
      | exact ih3 _ _ _ _ _
      | exact ih4 _ _ _ _ _
      | exact frisketref05_hangul.mono _ _ _
      | exact frisketref05_odd.mono _ _ _
      | exact frisketref05_picture.mono _ _ _
      | exact LeO.none _
      | refine LeO.ite ?_ ?_
      | refine LeO.bind ?_ (fun _ => ?_)
    · intro y0 y1 y2 y3 y4
      unfold frisketref05_Break.j3
      repeat' first
      | (with_reducible exact ih0 _ _ _)
      | (with_reducible exact ih1 _ _ _)
      | (with_reducible exact ih2 _ _ _ _ _)
      | (with_reducible exact ih3 _ _ _ _ _)
      | (with_reducible exact ih4 _ _ _ _ _)
      | (with_reducible exact frisketref05_hangul.mono _ _ _)
      | (with_reducible exact frisketref05_odd.mono _ _ _)
      | (with_reducible exact frisketref05_picture.mono _ _ _)
      | (with_reducible exact LeO.refl _)
      | (with_reducible exact LeO.none _)
      | (with_reducible refine LeO.ite ?_ ?_)
      | (with_reducible refine LeO.bind ?_ (fun _ => ?_))
      | exact ih0 _ _ _
      | exact ih1 _ _ _
      | exact ih2 _ _ _ _ _
      | exact ih3 _ _ _ _ _
      | exact ih4 _ _ _ _ _
      | exact frisketref05_hangul.mono _ _ _
      | exact frisketref05_odd.mono _ _ _
      | exact frisketref05_picture.mono _ _ _
      | exact LeO.none _
      | refine LeO.ite ?_ ?_
      | refine LeO.bind ?_ (fun _ => ?_)
    · intro y0 y1 y2 y3 y4
      unfold frisketref05_Break.j4
      repeat' first
      | (with_reducible exact ih0 _ _ _)
      | (with_reducible exact ih1 _ _ _)
      | (with_reducible exact ih2 _ _ _ _ _)
      | (with_reducible exact ih3 _ _ _ _ _)
      | (with_reducible exact ih4 _ _ _ _ _)
      | (with_reducible exact frisketref05_hangul.mono _ _ _)
      | (with_reducible exact frisketref05_odd.mono _ _ _)
      | (with_reducible exact frisketref05_picture.mono _ _ _)
      | (with_reducible exact LeO.refl _)
      | (with_reducible exact LeO.none _)
      | (with_reducible refine LeO.ite ?_ ?_)
      | (with_reducible refine LeO.bind ?_ (fun _ => ?_))
      | exact ih0 _ _ _
      | exact ih1 _ _ _
      | exact ih2 _ _ _ _ _
      | exact ih3 _ _ _ _ _
      | exact ih4 _ _ _ _ _
      | exact frisketref05_hangul.mono _ _ _
      | exact frisketref05_odd.mono _ _ _
      | exact frisketref05_picture.mono _ _ _
      | exact LeO.none _
      | refine LeO.ite ?_ ?_
      | refine LeO.bind ?_ (fun _ => ?_)
theorem frisketref05_Break.mono : ∀ a0 a1 k, LeO (frisketref05_Break.f k a0 a1) (frisketref05_Break.f (k + 1) a0 a1) := by
  intro a0 a1 k
  obtain ⟨ih0, ih1, ih2, ih3, ih4⟩ := frisketref05_Break.mono_l k
  unfold frisketref05_Break.f
  repeat' first
      | (with_reducible exact ih0 _ _ _)
      | (with_reducible exact ih1 _ _ _)
      | (with_reducible exact ih2 _ _ _ _ _)
      | (with_reducible exact ih3 _ _ _ _ _)
      | (with_reducible exact ih4 _ _ _ _ _)
      | (with_reducible exact frisketref05_hangul.mono _ _ _)
      | (with_reducible exact frisketref05_odd.mono _ _ _)
      | (with_reducible exact frisketref05_picture.mono _ _ _)
      | (with_reducible exact LeO.refl _)
      | (with_reducible exact LeO.none _)
      | (with_reducible refine LeO.ite ?_ ?_)
      | (with_reducible refine LeO.bind ?_ (fun _ => ?_))
      | exact ih0 _ _ _
      | exact ih1 _ _ _
      | exact ih2 _ _ _ _ _
      | exact ih3 _ _ _ _ _
      | exact ih4 _ _ _ _ _
      | exact frisketref05_hangul.mono _ _ _
      | exact frisketref05_odd.mono _ _ _
      | exact frisketref05_picture.mono _ _ _
      | exact LeO.none _
      | refine LeO.ite ?_ ?_
      | refine LeO.bind ?_ (fun _ => ?_)
set_option maxHeartbeats 8000000 in
set_option maxRecDepth 100000 in
theorem frisketref05_Break.calls (k : Nat) (A0 : Option Addr) (c0 : Nat) (l0 : List Int) (a1 : Int) (r : Bool) (w : World) (hr0 : Kd.C (Kd.int .i64) w A0 l0.length l0) (hc0 : l0.length ≤ c0) (h : frisketref05_Break.f k l0 a1 = some r) :
    Calls Try.prog 12 #[.slice A0 l0.length c0, .int .i64 a1] w fun e w' => e = .returned (.bool r) ∧ Below w.heap.size w w' := by
  have HR0 := Aside0.mk hr0
  have HC0 := Aside0.mk hc0
  clear hr0 hc0
  have HB := Aside0.mk (Below.refl w.heap.size w)
  have H : (if a1 < 0 then (frisketref05_Break.j0 k l0 a1 true) else (if a1 > (l0.length : Int) then (frisketref05_Break.j0 k l0 a1 true) else (frisketref05_Break.j0 k l0 a1 ((l0.length : Int) == 0)))) = some r := h
  clear h
  have HC3 := Aside0.mk H
  clear H
  go_enter Try.func12, Try.ntmps12
  go_upto_region 1 with (fail)
  go_cut [24] (fun v24 wc => ∃ (kq : Nat) (x24_2 : Bool), v24 = .bool x24_2 ∧ Aside0 (frisketref05_Break.j0 kq l0 a1 x24_2 = some r) ∧ Aside0 (kq ≤ k) ∧ Aside0 (Below w.heap.size w wc))
  case first =>
    have H := HC3.out
    clear HC3
    by_cases c4 : a1 < 0
    · rw [if_pos c4] at H
      have c4b0 : decide (a1 < 0) = true := decide_eq_true c4
      clear c4
      (first | rw [c4b0] | (simp only [i64_w, i32_w]; rw [c4b0]) | skip)
      have H' := Aside0.mk H
      clear H
      go_wp2
      go_meet
      case rel => exact ⟨_, (true), (by first | rfl | (simp; done) | (simp [*]; done)), H', ⟨by first | omega | exact Nat.le_refl _⟩, ⟨by repeat (first | (with_reducible first | exact HB.out | apply below_alloc | apply pw_below_drewN | apply below_drew1) | exact HB.out)⟩⟩
    · rw [if_neg c4] at H
      have c4b0 : decide (a1 < 0) = false := decide_eq_false c4
      clear c4
      (first | rw [c4b0] | (simp only [i64_w, i32_w]; rw [c4b0]) | skip)
      by_cases c5 : a1 > (l0.length : Int)
      · rw [if_pos c5] at H
        have c5b0 : decide ((l0.length : Int) < a1) = true := decide_eq_true c5
        clear c5
        have H' := Aside0.mk H
        clear H
        go_wp2
        go_meet
        case rel => exact ⟨_, (true), (by first | rfl | (simp; done) | (simp [*]; done)), H', ⟨by first | omega | exact Nat.le_refl _⟩, ⟨by repeat (first | (with_reducible first | exact HB.out | apply below_alloc | apply pw_below_drewN | apply below_drew1) | exact HB.out)⟩⟩
      · rw [if_neg c5] at H
        have c5b0 : decide ((l0.length : Int) < a1) = false := decide_eq_false c5
        clear c5
        have H' := Aside0.mk H
        clear H
        go_wp2
        go_meet
        case rel => exact ⟨_, (((l0.length : Int) == 0)), (by first | rfl | (simp; done) | (simp [*]; done)), H', ⟨by first | omega | exact Nat.le_refl _⟩, ⟨by repeat (first | (with_reducible first | exact HB.out | apply below_alloc | apply pw_below_drewN | apply below_drew1) | exact HB.out)⟩⟩
  case rest =>
    clear HC3
    try clear c1
    try clear p2
    try clear c4
    try clear c4b0
    try clear c5
    try clear c5b0
    obtain ⟨kq, x24_2, rfl, HA, HJ2, HB⟩ := hcut
    cases kq with
    | zero => exact absurd HA.out (by simp [frisketref05_Break.j0])
    | succ kj2 =>
      have H := HA.out
      clear HA
      simp only [frisketref05_Break.j0] at H
      by_cases c6 : x24_2 = true
      · subst c6
        have H1 : (some false) = some r := by rw [if_pos rfl] at H; exact H
        clear H
        have H := H1
        clear H1
        obtain rfl := Option.some.inj H
        go_wp2
        go_ret
        exact ⟨by first | rfl | (simp [errW_none, errW_some] <;> rfl) | (simp [*, errW_none, errW_some] <;> rfl), by repeat (first | (with_reducible first | exact HB.out | apply below_alloc | apply pw_below_drewN | apply below_drew1) | exact HB.out)⟩
      · replace c6 := Bool.eq_false_iff.mpr c6
        subst c6
        have H1 : (if a1 = 0 then (frisketref05_Break.j1 kj2 l0 a1 true) else (frisketref05_Break.j1 kj2 l0 a1 (a1 == (l0.length : Int)))) = some r := by rw [if_neg (show ¬ (false = true) by decide)] at H; exact H
        clear H
        have H := H1
        clear H1
        have HC7 := Aside0.mk H
        clear H
        go_upto_region 3 with (fail)
        go_cut [32] (fun v32 wc => ∃ (kq : Nat) (x32_6 : Bool), v32 = .bool x32_6 ∧ Aside0 (frisketref05_Break.j1 kq l0 a1 x32_6 = some r) ∧ Aside0 (kq ≤ kj2) ∧ Aside0 (Below w.heap.size w wc))
        case first =>
          have H := HC7.out
          clear HC7
          by_cases c8 : a1 = 0
          · rw [if_pos c8] at H
            have c8b0 : (a1 == 0) = true := beq_iff_eq.mpr c8
            have c8b1 : (a1 != 0) = false := bne_eq_false_iff_eq.mpr c8
            clear c8
            (first | rw [c8b0] | (simp only [i64_w, i32_w]; rw [c8b0]) | skip)
            have H' := Aside0.mk H
            clear H
            go_wp2
            go_meet
            case rel => exact ⟨_, (true), (by first | rfl | (simp; done) | (simp [*]; done)), H', ⟨by have := HJ2.out; first | omega | exact Nat.le_refl _⟩, ⟨by repeat (first | (with_reducible first | exact HB.out | apply below_alloc | apply pw_below_drewN | apply below_drew1) | exact HB.out)⟩⟩
          · rw [if_neg c8] at H
            have c8b0 : (a1 == 0) = false := beq_eq_false_iff_ne.mpr c8
            have c8b1 : (a1 != 0) = true := bne_iff_ne.mpr c8
            (first | rw [c8b0] | (simp only [i64_w, i32_w]; rw [c8b0]) | skip)
            have H' := Aside0.mk H
            clear H
            go_wp2
            go_meet
            case rel => exact ⟨_, ((a1 == (l0.length : Int))), (by first | rfl | (simp; done) | (simp [*]; done)), H', ⟨by have := HJ2.out; first | omega | exact Nat.le_refl _⟩, ⟨by repeat (first | (with_reducible first | exact HB.out | apply below_alloc | apply pw_below_drewN | apply below_drew1) | exact HB.out)⟩⟩
        case rest =>
          clear HC7
          try clear c1
          try clear p2
          try clear c4
          try clear c4b0
          try clear c5
          try clear c5b0
          try clear c6
          try clear c8
          try clear c8b0
          try clear c8b1
          try clear p2
          obtain ⟨kq, x32_6, rfl, HA, HJ6, HB⟩ := hcut
          cases kq with
          | zero => exact absurd HA.out (by simp [frisketref05_Break.j1])
          | succ kj6 =>
            have H := HA.out
            clear HA
            simp only [frisketref05_Break.j1] at H
            by_cases c9 : x32_6 = true
            · subst c9
              have H1 : (some true) = some r := by rw [if_pos rfl] at H; exact H
              clear H
              have H := H1
              clear H1
              obtain rfl := Option.some.inj H
              go_wp2
              go_ret
              exact ⟨by first | rfl | (simp [errW_none, errW_some] <;> rfl) | (simp [*, errW_none, errW_some] <;> rfl), by repeat (first | (with_reducible first | exact HB.out | apply below_alloc | apply pw_below_drewN | apply below_drew1) | exact HB.out)⟩
            · replace c9 := Bool.eq_false_iff.mpr c9
              subst c9
              have H1 : (if 0 ≤ (wrap64 (a1 - 1)) then (if (wrap64 (a1 - 1)) < (l0.length : Int) then (if 0 ≤ a1 then (if a1 < (l0.length : Int) then (if (rd l0 (wrap64 (a1 - 1))) = 1 then (frisketref05_Break.j2 kj6 l0 a1 (rd l0 (wrap64 (a1 - 1))) (rd l0 a1) ((rd l0 a1) == 2)) else (frisketref05_Break.j2 kj6 l0 a1 (rd l0 (wrap64 (a1 - 1))) (rd l0 a1) false)) else (none)) else (none)) else (none)) else (none)) = some r := by rw [if_neg (show ¬ (false = true) by decide)] at H; exact H
              clear H
              have H := H1
              clear H1
              obtain ⟨ji10, hji10⟩ : ∃ j_ : Int, (wrap64 (a1 - 1)) = j_ := ⟨_, rfl⟩
              replace H : (if 0 ≤ (ji10) then (if (ji10) < (l0.length : Int) then (if 0 ≤ a1 then (if a1 < (l0.length : Int) then (if (rd l0 (ji10)) = 1 then (frisketref05_Break.j2 kj6 l0 a1 (rd l0 (ji10)) (rd l0 a1) ((rd l0 a1) == 2)) else (frisketref05_Break.j2 kj6 l0 a1 (rd l0 (ji10)) (rd l0 a1) false)) else (none)) else (none)) else (none)) else (none)) = some r := by first | (rw [hji10] at H; exact H) | (simp only [hji10] at H ⊢; exact H)
              have hji10w : (IntKind.i64.wrap (a1 - 1)) = ji10 := (i64_w _).trans hji10
              by_cases c11 : 0 ≤ (ji10)
              · rw [if_pos c11] at H
                have c11b0 : decide (0 ≤ (ji10)) = true := decide_eq_true c11
                clear c11
                by_cases c12 : (ji10) < (l0.length : Int)
                · rw [if_pos c12] at H
                  have c12b0 : decide ((ji10) < (l0.length : Int)) = true := decide_eq_true c12
                  clear c12
                  by_cases c13 : 0 ≤ a1
                  · rw [if_pos c13] at H
                    have c13b0 : decide (0 ≤ a1) = true := decide_eq_true c13
                    clear c13
                    by_cases c14 : a1 < (l0.length : Int)
                    · rw [if_pos c14] at H
                      have c14b0 : decide (a1 < (l0.length : Int)) = true := decide_eq_true c14
                      clear c14
                      have HC15 := Aside0.mk H
                      clear H
                      have p150 : 0 ≤ ((ji10) : Int) := of_decide_eq_true (by first | (with_reducible assumption) | assumption)
                      have q150 : (ji10) < (l0.length : Int) := of_decide_eq_true (by first | (with_reducible assumption) | assumption)
                      obtain ⟨ad150, e150, hx150_0⟩ := Kd.at_int HR0.out (ji10) p150 q150
                      cases e150
                      replace hx150_0 := (HB.out.cell (World.block_lt_of_cell? w _ hx150_0)).trans hx150_0
                      replace p150 := eq_true p150
                      replace q150 := eq_true q150
                      have p151 : 0 ≤ (a1 : Int) := of_decide_eq_true (by first | (with_reducible assumption) | assumption)
                      have q151 : a1 < (l0.length : Int) := of_decide_eq_true (by first | (with_reducible assumption) | assumption)
                      obtain ⟨ad151, e151, hx151_0⟩ := Kd.at_int HR0.out a1 p151 q151
                      obtain rfl : ad150 = ad151 := (by injection e151)
                      replace hx151_0 := (HB.out.cell (World.block_lt_of_cell? w _ hx151_0)).trans hx151_0
                      replace p151 := eq_true p151
                      replace q151 := eq_true q151
                      go_upto_region 7 with (fail)
                      go_cut [47] (fun v47 wc => ∃ (kq : Nat) (x47_14 : Bool), v47 = .bool x47_14 ∧ Aside0 (frisketref05_Break.j2 kq l0 a1 (rd l0 (ji10)) (rd l0 a1) x47_14 = some r) ∧ Aside0 (kq ≤ kj6) ∧ Aside0 (Below w.heap.size w wc))
                      case first =>
                        have H := HC15.out
                        clear HC15
                        by_cases c16 : (rd l0 (ji10)) = 1
                        · rw [if_pos c16] at H
                          have c16b0 : ((rd l0 (ji10)) == 1) = true := beq_iff_eq.mpr c16
                          have c16b1 : ((rd l0 (ji10)) != 1) = false := bne_eq_false_iff_eq.mpr c16
                          clear c16
                          (first | rw [c16b0] | (simp only [i64_w, i32_w]; rw [c16b0]) | skip)
                          have H' := Aside0.mk H
                          clear H
                          go_wp2
                          go_meet
                          case rel => exact ⟨_, (((rd l0 a1) == 2)), (by first | rfl | (simp; done) | (simp [*]; done)), H', ⟨by have := HJ2.out; have := HJ6.out; first | omega | exact Nat.le_refl _⟩, ⟨by repeat (first | (with_reducible first | exact HB.out | apply below_alloc | apply pw_below_drewN | apply below_drew1) | exact HB.out)⟩⟩
                        · rw [if_neg c16] at H
                          have c16b0 : ((rd l0 (ji10)) == 1) = false := beq_eq_false_iff_ne.mpr c16
                          have c16b1 : ((rd l0 (ji10)) != 1) = true := bne_iff_ne.mpr c16
                          (first | rw [c16b0] | (simp only [i64_w, i32_w]; rw [c16b0]) | skip)
                          have H' := Aside0.mk H
                          clear H
                          go_wp2
                          go_meet
                          case rel => exact ⟨_, (false), (by first | rfl | (simp; done) | (simp [*]; done)), H', ⟨by have := HJ2.out; have := HJ6.out; first | omega | exact Nat.le_refl _⟩, ⟨by repeat (first | (with_reducible first | exact HB.out | apply below_alloc | apply pw_below_drewN | apply below_drew1) | exact HB.out)⟩⟩
                      case rest =>
                        clear HC15
                        try clear c1
                        try clear p1
                        try clear q1
                        try clear hx1
                        try clear p2
                        try clear c4
                        try clear c4b0
                        try clear c5
                        try clear c5b0
                        try clear c6
                        try clear p6
                        try clear c8
                        try clear c8b0
                        try clear c8b1
                        try clear c9
                        try clear c11
                        try clear c11b0
                        try clear c12
                        try clear c12b0
                        try clear c13
                        try clear c13b0
                        try clear c14
                        try clear c14b0
                        try clear p15
                        try clear q15
                        try clear hx15
                        try clear c16
                        try clear c16b0
                        try clear c16b1
                        try clear hx150_0
                        try clear hx151_0
                        try clear p150
                        try clear p151
                        try clear p2
                        try clear q150
                        try clear q151
                        obtain ⟨kq, x47_14, rfl, HA, HJ14, HB⟩ := hcut
                        cases kq with
                        | zero => exact absurd HA.out (by simp [frisketref05_Break.j2])
                        | succ kj14 =>
                          have H := HA.out
                          clear HA
                          simp only [frisketref05_Break.j2] at H
                          by_cases c17 : x47_14 = true
                          · subst c17
                            have H1 : (some false) = some r := by rw [if_pos rfl] at H; exact H
                            clear H
                            have H := H1
                            clear H1
                            obtain rfl := Option.some.inj H
                            go_wp2
                            go_ret
                            exact ⟨by first | rfl | (simp [errW_none, errW_some] <;> rfl) | (simp only [← hji10]; first | rfl | (simp [errW_none, errW_some] <;> rfl)) | (simp [*, errW_none, errW_some] <;> rfl), by repeat (first | (with_reducible first | exact HB.out | apply below_alloc | apply pw_below_drewN | apply below_drew1) | exact HB.out)⟩
                          · replace c17 := Bool.eq_false_iff.mpr c17
                            subst c17
                            have H1 : ((frisketref05_ends.f (rd l0 (ji10))).bind fun t152 => ((frisketref05_ends.f (rd l0 a1)).bind fun t153 => (if t152 = true then (frisketref05_Break.j3 kj14 l0 a1 (rd l0 (ji10)) (rd l0 a1) true) else (frisketref05_Break.j3 kj14 l0 a1 (rd l0 (ji10)) (rd l0 a1) t153)))) = some r := by rw [if_neg (show ¬ (false = true) by decide)] at H; exact H
                            clear H
                            have H := H1
                            clear H1
                            replace H := Option.bind_eq_some_iff.mp H
                            obtain ⟨t152, A180, H⟩ := H
                            replace H : ((frisketref05_ends.f (rd l0 a1)).bind fun t153 => (if t152 = true then (frisketref05_Break.j3 kj14 l0 a1 (rd l0 (ji10)) (rd l0 a1) true) else (frisketref05_Break.j3 kj14 l0 a1 (rd l0 (ji10)) (rd l0 a1) t153))) = some r := H
                            have A18 := Aside0.mk A180
                            clear A180
                            replace H := Option.bind_eq_some_iff.mp H
                            obtain ⟨t153, A190, H⟩ := H
                            replace H : (if t152 = true then (frisketref05_Break.j3 kj14 l0 a1 (rd l0 (ji10)) (rd l0 a1) true) else (frisketref05_Break.j3 kj14 l0 a1 (rd l0 (ji10)) (rd l0 a1) t153)) = some r := H
                            have A19 := Aside0.mk A190
                            clear A190
                            have HC20 := Aside0.mk H
                            clear H
                            go_upto_region 11 with (first | ((with_reducible refine gate_callee (f := 17) rfl ?_); refine goesL_ (some 49) rfl rfl Try.func17 (by kernel_rfl) rfl #[.int .i64 (rd l0 (ji10))] rfl (by (try simp only [List.map_toArray, List.map_cons, List.map_nil]); first | done | (simp only [hji10]; rfl) | rfl | (simp only [List.length_drop, List.length_take]; rfl)) ?_; (with_reducible refine (frisketref05_ends.calls (rd l0 (ji10)) t152 _ A18.out).mono ?_); rintro e w' ⟨rfl, ⟨nd, rfl⟩⟩; refine ⟨_, rfl, ?_⟩) | ((with_reducible refine gate_callee (f := 17) rfl ?_); refine goesL_ (some 51) rfl rfl Try.func17 (by kernel_rfl) rfl #[.int .i64 (rd l0 a1)] rfl (by (try simp only [List.map_toArray, List.map_cons, List.map_nil]); first | done | rfl | (simp only [List.length_drop, List.length_take]; rfl)) ?_; (with_reducible refine (frisketref05_ends.calls (rd l0 a1) t153 _ A19.out).mono ?_); rintro e w' ⟨rfl, ⟨nd, rfl⟩⟩; refine ⟨_, rfl, ?_⟩))
                            (try simp only [Act.put, List.setIfInBounds_toArray, List.set_cons_zero, List.set_cons_succ])
                            go_cut [55] (fun v55 wc => ∃ (kq : Nat) (x55_19 : Bool), v55 = .bool x55_19 ∧ Aside0 (frisketref05_Break.j3 kq l0 a1 (rd l0 (ji10)) (rd l0 a1) x55_19 = some r) ∧ Aside0 (kq ≤ kj14) ∧ Aside0 (Below w.heap.size w wc))
                            case first =>
                              have H := HC20.out
                              clear HC20
                              by_cases c21 : t152 = true
                              · subst c21
                                have H1 : (frisketref05_Break.j3 kj14 l0 a1 (rd l0 (ji10)) (rd l0 a1) true) = some r := by rw [if_pos rfl] at H; exact H
                                clear H
                                have H := H1
                                clear H1
                                have H' := Aside0.mk H
                                clear H
                                go_wp2
                                go_meet
                                case rel => exact ⟨_, (true), (by first | rfl | (simp; done) | (simp [*]; done)), H', ⟨by have := HJ2.out; have := HJ6.out; have := HJ14.out; first | omega | exact Nat.le_refl _⟩, ⟨by repeat (first | (with_reducible first | exact HB.out | apply below_alloc | apply pw_below_drewN | apply below_drew1) | exact HB.out)⟩⟩
                              · replace c21 := Bool.eq_false_iff.mpr c21
                                subst c21
                                have H1 : (frisketref05_Break.j3 kj14 l0 a1 (rd l0 (ji10)) (rd l0 a1) t153) = some r := by rw [if_neg (show ¬ (false = true) by decide)] at H; exact H
                                clear H
                                have H := H1
                                clear H1
                                have H' := Aside0.mk H
                                clear H
                                go_wp2
                                go_meet
                                case rel => exact ⟨_, (t153), (by first | rfl | (simp; done) | (simp [*]; done)), H', ⟨by have := HJ2.out; have := HJ6.out; have := HJ14.out; first | omega | exact Nat.le_refl _⟩, ⟨by repeat (first | (with_reducible first | exact HB.out | apply below_alloc | apply pw_below_drewN | apply below_drew1) | exact HB.out)⟩⟩
                            case rest =>
                              clear HC20
                              try clear c1
                              try clear p1
                              try clear q1
                              try clear hx1
                              try clear c2
                              try clear p2
                              try clear c4
                              try clear c4b0
                              try clear c5
                              try clear c5b0
                              try clear c6
                              try clear p6
                              try clear c8
                              try clear c8b0
                              try clear c8b1
                              try clear c9
                              try clear c11
                              try clear c11b0
                              try clear c12
                              try clear c12b0
                              try clear c13
                              try clear c13b0
                              try clear c14
                              try clear c14b0
                              try clear p15
                              try clear q15
                              try clear hx15
                              try clear c16
                              try clear c16b0
                              try clear c16b1
                              try clear c17
                              try clear c21
                              try clear hx150_0
                              try clear hx151_0
                              try clear p1
                              try clear p15
                              try clear p150
                              try clear p151
                              try clear p2
                              try clear p6
                              try clear q1
                              try clear q15
                              try clear q150
                              try clear q151
                              obtain ⟨kq, x55_19, rfl, HA, HJ19, HB⟩ := hcut
                              cases kq with
                              | zero => exact absurd HA.out (by simp [frisketref05_Break.j3])
                              | succ kj19 =>
                                have H := HA.out
                                clear HA
                                simp only [frisketref05_Break.j3] at H
                                by_cases c22 : x55_19 = true
                                · subst c22
                                  have H1 : (some true) = some r := by rw [if_pos rfl] at H; exact H
                                  clear H
                                  have H := H1
                                  clear H1
                                  obtain rfl := Option.some.inj H
                                  go_wp2
                                  go_ret
                                  exact ⟨by first | rfl | (simp [errW_none, errW_some] <;> rfl) | (simp only [← hji10]; first | rfl | (simp [errW_none, errW_some] <;> rfl)) | (simp [*, errW_none, errW_some] <;> rfl), by repeat (first | (with_reducible first | exact HB.out | apply below_alloc | apply pw_below_drewN | apply below_drew1) | exact HB.out)⟩
                                · replace c22 := Bool.eq_false_iff.mpr c22
                                  subst c22
                                  have H1 : ((frisketref05_hangul.f kj19 (rd l0 (ji10)) (rd l0 a1)).bind fun t154 => (if t154 = true then (frisketref05_Break.j4 kj19 l0 a1 (rd l0 (ji10)) (rd l0 a1) true) else (if (rd l0 a1) = 4 then (frisketref05_Break.j4 kj19 l0 a1 (rd l0 (ji10)) (rd l0 a1) true) else (if (rd l0 a1) = 5 then (frisketref05_Break.j4 kj19 l0 a1 (rd l0 (ji10)) (rd l0 a1) true) else (if (rd l0 a1) = 8 then (frisketref05_Break.j4 kj19 l0 a1 (rd l0 (ji10)) (rd l0 a1) true) else (frisketref05_Break.j4 kj19 l0 a1 (rd l0 (ji10)) (rd l0 a1) ((rd l0 (ji10)) == 7))))))) = some r := by rw [if_neg (show ¬ (false = true) by decide)] at H; exact H
                                  clear H
                                  have H := H1
                                  clear H1
                                  replace H := Option.bind_eq_some_iff.mp H
                                  obtain ⟨t154, A230, H⟩ := H
                                  replace H : (if t154 = true then (frisketref05_Break.j4 kj19 l0 a1 (rd l0 (ji10)) (rd l0 a1) true) else (if (rd l0 a1) = 4 then (frisketref05_Break.j4 kj19 l0 a1 (rd l0 (ji10)) (rd l0 a1) true) else (if (rd l0 a1) = 5 then (frisketref05_Break.j4 kj19 l0 a1 (rd l0 (ji10)) (rd l0 a1) true) else (if (rd l0 a1) = 8 then (frisketref05_Break.j4 kj19 l0 a1 (rd l0 (ji10)) (rd l0 a1) true) else (frisketref05_Break.j4 kj19 l0 a1 (rd l0 (ji10)) (rd l0 a1) ((rd l0 (ji10)) == 7)))))) = some r := H
                                  have A23 := Aside0.mk A230
                                  clear A230
                                  have HC24 := Aside0.mk H
                                  clear H
                                  go_upto_region 14 with (first | ((with_reducible refine gate_callee (f := 18) rfl ?_); refine goesL_ (some 58) rfl rfl Try.func18 (by kernel_rfl) rfl #[.int .i64 (rd l0 (ji10)), .int .i64 (rd l0 a1)] rfl (by (try simp only [List.map_toArray, List.map_cons, List.map_nil]); first | done | (simp only [hji10]; rfl) | rfl | (simp only [List.length_drop, List.length_take]; rfl)) ?_; (with_reducible refine (frisketref05_hangul.calls kj19 (rd l0 (ji10)) (rd l0 a1) t154 _ A23.out).mono ?_); rintro e w25 ⟨rfl, hb⟩; refine ⟨_, rfl, ?_⟩; have n0_ := Aside0.mk (below_step (by repeat (first | (with_reducible first | exact HB.out | apply below_alloc | apply pw_below_drewN | apply below_drew1) | exact HB.out)) hb); clear HB; have HB := n0_; clear n0_; (try clear hb); (try clear hb2); (try clear hk); (try clear hi)))
                                  (try simp only [Act.put, List.setIfInBounds_toArray, List.set_cons_zero, List.set_cons_succ])
                                  go_cut [75] (fun v75 wc => ∃ (kq : Nat) (x75_23 : Bool), v75 = .bool x75_23 ∧ Aside0 (frisketref05_Break.j4 kq l0 a1 (rd l0 (ji10)) (rd l0 a1) x75_23 = some r) ∧ Aside0 (kq ≤ kj19) ∧ Aside0 (Below w.heap.size w wc))
                                  case first =>
                                    have H := HC24.out
                                    clear HC24
                                    by_cases c26 : t154 = true
                                    · subst c26
                                      have H1 : (frisketref05_Break.j4 kj19 l0 a1 (rd l0 (ji10)) (rd l0 a1) true) = some r := by rw [if_pos rfl] at H; exact H
                                      clear H
                                      have H := H1
                                      clear H1
                                      have H' := Aside0.mk H
                                      clear H
                                      go_wp2
                                      go_meet
                                      case rel => exact ⟨_, (true), (by first | rfl | (simp; done) | (simp [*]; done)), H', ⟨by have := HJ2.out; have := HJ6.out; have := HJ14.out; have := HJ19.out; first | omega | exact Nat.le_refl _⟩, ⟨by repeat (first | (with_reducible first | exact HB.out | apply below_alloc | apply pw_below_drewN | apply below_drew1) | exact HB.out)⟩⟩
                                    · replace c26 := Bool.eq_false_iff.mpr c26
                                      subst c26
                                      have H1 : (if (rd l0 a1) = 4 then (frisketref05_Break.j4 kj19 l0 a1 (rd l0 (ji10)) (rd l0 a1) true) else (if (rd l0 a1) = 5 then (frisketref05_Break.j4 kj19 l0 a1 (rd l0 (ji10)) (rd l0 a1) true) else (if (rd l0 a1) = 8 then (frisketref05_Break.j4 kj19 l0 a1 (rd l0 (ji10)) (rd l0 a1) true) else (frisketref05_Break.j4 kj19 l0 a1 (rd l0 (ji10)) (rd l0 a1) ((rd l0 (ji10)) == 7))))) = some r := by rw [if_neg (show ¬ (false = true) by decide)] at H; exact H
                                      clear H
                                      have H := H1
                                      clear H1
                                      by_cases c27 : (rd l0 a1) = 4
                                      · rw [if_pos c27] at H
                                        have c27b0 : ((rd l0 a1) == 4) = true := beq_iff_eq.mpr c27
                                        have c27b1 : ((rd l0 a1) != 4) = false := bne_eq_false_iff_eq.mpr c27
                                        clear c27
                                        (first | rw [c27b0] | (simp only [i64_w, i32_w]; rw [c27b0]) | skip)
                                        have H' := Aside0.mk H
                                        clear H
                                        go_wp2
                                        go_meet
                                        case rel => exact ⟨_, (true), (by first | rfl | (simp; done) | (simp [*]; done)), H', ⟨by have := HJ2.out; have := HJ6.out; have := HJ14.out; have := HJ19.out; first | omega | exact Nat.le_refl _⟩, ⟨by repeat (first | (with_reducible first | exact HB.out | apply below_alloc | apply pw_below_drewN | apply below_drew1) | exact HB.out)⟩⟩
                                      · rw [if_neg c27] at H
                                        have c27b0 : ((rd l0 a1) == 4) = false := beq_eq_false_iff_ne.mpr c27
                                        have c27b1 : ((rd l0 a1) != 4) = true := bne_iff_ne.mpr c27
                                        (first | rw [c27b0] | (simp only [i64_w, i32_w]; rw [c27b0]) | skip)
                                        by_cases c28 : (rd l0 a1) = 5
                                        · rw [if_pos c28] at H
                                          have c28b0 : ((rd l0 a1) == 5) = true := beq_iff_eq.mpr c28
                                          have c28b1 : ((rd l0 a1) != 5) = false := bne_eq_false_iff_eq.mpr c28
                                          clear c28
                                          have H' := Aside0.mk H
                                          clear H
                                          go_wp2
                                          go_meet
                                          case rel => exact ⟨_, (true), (by first | rfl | (simp; done) | (simp [*]; done)), H', ⟨by have := HJ2.out; have := HJ6.out; have := HJ14.out; have := HJ19.out; first | omega | exact Nat.le_refl _⟩, ⟨by repeat (first | (with_reducible first | exact HB.out | apply below_alloc | apply pw_below_drewN | apply below_drew1) | exact HB.out)⟩⟩
                                        · rw [if_neg c28] at H
                                          have c28b0 : ((rd l0 a1) == 5) = false := beq_eq_false_iff_ne.mpr c28
                                          have c28b1 : ((rd l0 a1) != 5) = true := bne_iff_ne.mpr c28
                                          by_cases c29 : (rd l0 a1) = 8
                                          · rw [if_pos c29] at H
                                            have c29b0 : ((rd l0 a1) == 8) = true := beq_iff_eq.mpr c29
                                            have c29b1 : ((rd l0 a1) != 8) = false := bne_eq_false_iff_eq.mpr c29
                                            clear c29
                                            have H' := Aside0.mk H
                                            clear H
                                            go_wp2
                                            go_meet
                                            case rel => exact ⟨_, (true), (by first | rfl | (simp; done) | (simp [*]; done)), H', ⟨by have := HJ2.out; have := HJ6.out; have := HJ14.out; have := HJ19.out; first | omega | exact Nat.le_refl _⟩, ⟨by repeat (first | (with_reducible first | exact HB.out | apply below_alloc | apply pw_below_drewN | apply below_drew1) | exact HB.out)⟩⟩
                                          · rw [if_neg c29] at H
                                            have c29b0 : ((rd l0 a1) == 8) = false := beq_eq_false_iff_ne.mpr c29
                                            have c29b1 : ((rd l0 a1) != 8) = true := bne_iff_ne.mpr c29
                                            have H' := Aside0.mk H
                                            clear H
                                            go_wp2
                                            go_meet
                                            case rel => exact ⟨_, (((rd l0 (ji10)) == 7)), (by first | rfl | (simp; done) | (simp only [← hji10] <;> (first | rfl | simp)) | (simp [*]; done)), H', ⟨by have := HJ2.out; have := HJ6.out; have := HJ14.out; have := HJ19.out; first | omega | exact Nat.le_refl _⟩, ⟨by repeat (first | (with_reducible first | exact HB.out | apply below_alloc | apply pw_below_drewN | apply below_drew1) | exact HB.out)⟩⟩
                                  case rest =>
                                    clear HC24
                                    try clear c1
                                    try clear p1
                                    try clear q1
                                    try clear hx1
                                    try clear c2
                                    try clear p2
                                    try clear c4
                                    try clear c4b0
                                    try clear c5
                                    try clear c5b0
                                    try clear c6
                                    try clear p6
                                    try clear c8
                                    try clear c8b0
                                    try clear c8b1
                                    try clear c9
                                    try clear c11
                                    try clear c11b0
                                    try clear c12
                                    try clear c12b0
                                    try clear c13
                                    try clear c13b0
                                    try clear c14
                                    try clear c14b0
                                    try clear p15
                                    try clear q15
                                    try clear hx15
                                    try clear c16
                                    try clear c16b0
                                    try clear c16b1
                                    try clear c17
                                    try clear c18
                                    try clear c21
                                    try clear c22
                                    try clear c26
                                    try clear c27
                                    try clear c27b0
                                    try clear c27b1
                                    try clear c28
                                    try clear c28b0
                                    try clear c28b1
                                    try clear c29
                                    try clear c29b0
                                    try clear c29b1
                                    try clear hx150_0
                                    try clear hx151_0
                                    try clear p1
                                    try clear p15
                                    try clear p150
                                    try clear p151
                                    try clear p2
                                    try clear p6
                                    try clear q1
                                    try clear q15
                                    try clear q150
                                    try clear q151
                                    obtain ⟨kq, x75_23, rfl, HA, HJ23, HB⟩ := hcut
                                    cases kq with
                                    | zero => exact absurd HA.out (by simp [frisketref05_Break.j4])
                                    | succ kj23 =>
                                      have H := HA.out
                                      clear HA
                                      simp only [frisketref05_Break.j4] at H
                                      simp only [hji10] at H
                                      by_cases c30 : x75_23 = true
                                      · subst c30
                                        have H1 : (some false) = some r := by rw [if_pos rfl] at H; exact H
                                        clear H
                                        have H := H1
                                        clear H1
                                        obtain rfl := Option.some.inj H
                                        go_wp2
                                        go_ret
                                        exact ⟨by first | rfl | (simp [errW_none, errW_some] <;> rfl) | (simp only [← hji10]; first | rfl | (simp [errW_none, errW_some] <;> rfl)) | (simp [*, errW_none, errW_some] <;> rfl), by repeat (first | (with_reducible first | exact HB.out | apply below_alloc | apply pw_below_drewN | apply below_drew1) | exact HB.out)⟩
                                      · replace c30 := Bool.eq_false_iff.mpr c30
                                        subst c30
                                        have H1 : (if (rd l0 a1) = 14 then ((frisketref05_picture.f kj23 l0 ji10).bind fun t155 => (some (!t155))) else (if (rd l0 (ji10)) = 6 then (if (rd l0 a1) = 6 then ((frisketref05_odd.f kj23 l0 ji10).bind fun t156 => (some (!t156))) else (some true)) else (some true))) = some r := by rw [if_neg (show ¬ (false = true) by decide)] at H; exact H
                                        clear H
                                        have H := H1
                                        clear H1
                                        by_cases c31 : (rd l0 a1) = 14
                                        · rw [if_pos c31] at H
                                          have c31b0 : ((rd l0 a1) == 14) = true := beq_iff_eq.mpr c31
                                          have c31b1 : ((rd l0 a1) != 14) = false := bne_eq_false_iff_eq.mpr c31
                                          clear c31
                                          replace H := Option.bind_eq_some_iff.mp H
                                          obtain ⟨t155, A320, H⟩ := H
                                          replace H : (some (!t155)) = some r := H
                                          have A32 := Aside0.mk A320
                                          clear A320
                                          obtain rfl := Option.some.inj H
                                          go_wp2_with (first | ((with_reducible refine gate_callee (f := 19) rfl ?_); refine goesL_ (some 81) rfl rfl Try.func19 (by kernel_rfl) rfl #[.slice (some ad150) l0.length c0, .int .i64 ji10] rfl (by (try simp only [List.map_toArray, List.map_cons, List.map_nil]); first | done | rfl | (simp only [List.length_drop, List.length_take]; rfl)) ?_; (with_reducible refine (frisketref05_picture.calls kj23 _ _ l0 ji10 t155 _ ?side1 ?side2 A32.out).mono ?_); (case side1 => repeat (first | exact (Kd.C_below HR0.out HB.out) | (with_reducible refine Kd.C_alloc ?_ _) | (with_reducible refine Kd.C_drewN ?_ _) | (with_reducible refine Kd.C_drew ?_))); (case side2 => exact HC0.out); rintro e w' ⟨rfl, ⟨nd, rfl⟩⟩; refine ⟨_, rfl, ?_⟩))
                                          go_ret
                                          exact ⟨by first | rfl | (simp [errW_none, errW_some] <;> rfl) | (simp only [← hji10]; first | rfl | (simp [errW_none, errW_some] <;> rfl)) | (simp [*, errW_none, errW_some] <;> rfl), by repeat (first | (with_reducible first | exact HB.out | apply below_alloc | apply pw_below_drewN | apply below_drew1) | exact HB.out)⟩
                                        · rw [if_neg c31] at H
                                          have c31b0 : ((rd l0 a1) == 14) = false := beq_eq_false_iff_ne.mpr c31
                                          have c31b1 : ((rd l0 a1) != 14) = true := bne_iff_ne.mpr c31
                                          by_cases c33 : (rd l0 (ji10)) = 6
                                          · rw [if_pos c33] at H
                                            have c33b0 : ((rd l0 (ji10)) == 6) = true := beq_iff_eq.mpr c33
                                            have c33b1 : ((rd l0 (ji10)) != 6) = false := bne_eq_false_iff_eq.mpr c33
                                            clear c33
                                            by_cases c34 : (rd l0 a1) = 6
                                            · rw [if_pos c34] at H
                                              have c34b0 : ((rd l0 a1) == 6) = true := beq_iff_eq.mpr c34
                                              have c34b1 : ((rd l0 a1) != 6) = false := bne_eq_false_iff_eq.mpr c34
                                              clear c34
                                              replace H := Option.bind_eq_some_iff.mp H
                                              obtain ⟨t156, A350, H⟩ := H
                                              replace H : (some (!t156)) = some r := H
                                              have A35 := Aside0.mk A350
                                              clear A350
                                              obtain rfl := Option.some.inj H
                                              go_wp2_with (first | ((with_reducible refine gate_callee (f := 20) rfl ?_); refine goesL_ (some 93) rfl rfl Try.func20 (by kernel_rfl) rfl #[.slice (some ad150) l0.length c0, .int .i64 ji10] rfl (by (try simp only [List.map_toArray, List.map_cons, List.map_nil]); first | done | rfl | (simp only [List.length_drop, List.length_take]; rfl)) ?_; (with_reducible refine (frisketref05_odd.calls kj23 _ _ l0 ji10 t156 _ ?side1 ?side2 A35.out).mono ?_); (case side1 => repeat (first | exact (Kd.C_below HR0.out HB.out) | (with_reducible refine Kd.C_alloc ?_ _) | (with_reducible refine Kd.C_drewN ?_ _) | (with_reducible refine Kd.C_drew ?_))); (case side2 => exact HC0.out); rintro e w' ⟨rfl, ⟨nd, rfl⟩⟩; refine ⟨_, rfl, ?_⟩))
                                              go_ret
                                              exact ⟨by first | rfl | (simp [errW_none, errW_some] <;> rfl) | (simp only [← hji10]; first | rfl | (simp [errW_none, errW_some] <;> rfl)) | (simp [*, errW_none, errW_some] <;> rfl), by repeat (first | (with_reducible first | exact HB.out | apply below_alloc | apply pw_below_drewN | apply below_drew1) | exact HB.out)⟩
                                            · rw [if_neg c34] at H
                                              have c34b0 : ((rd l0 a1) == 6) = false := beq_eq_false_iff_ne.mpr c34
                                              have c34b1 : ((rd l0 a1) != 6) = true := bne_iff_ne.mpr c34
                                              obtain rfl := Option.some.inj H
                                              go_wp2
                                              go_ret
                                              exact ⟨by first | rfl | (simp [errW_none, errW_some] <;> rfl) | (simp only [← hji10]; first | rfl | (simp [errW_none, errW_some] <;> rfl)) | (simp [*, errW_none, errW_some] <;> rfl), by repeat (first | (with_reducible first | exact HB.out | apply below_alloc | apply pw_below_drewN | apply below_drew1) | exact HB.out)⟩
                                          · rw [if_neg c33] at H
                                            have c33b0 : ((rd l0 (ji10)) == 6) = false := beq_eq_false_iff_ne.mpr c33
                                            have c33b1 : ((rd l0 (ji10)) != 6) = true := bne_iff_ne.mpr c33
                                            obtain rfl := Option.some.inj H
                                            go_wp2
                                            go_ret
                                            exact ⟨by first | rfl | (simp [errW_none, errW_some] <;> rfl) | (simp only [← hji10]; first | rfl | (simp [errW_none, errW_some] <;> rfl)) | (simp [*, errW_none, errW_some] <;> rfl), by repeat (first | (with_reducible first | exact HB.out | apply below_alloc | apply pw_below_drewN | apply below_drew1) | exact HB.out)⟩
                    · rw [if_neg c14] at H
                      exact absurd H (by simp)
                  · rw [if_neg c13] at H
                    exact absurd H (by simp)
                · rw [if_neg c12] at H
                  exact absurd H (by simp)
              · rw [if_neg c11] at H
                exact absurd H (by simp)

end Go.Proofs.Ytignelhjipbnkaa.P
