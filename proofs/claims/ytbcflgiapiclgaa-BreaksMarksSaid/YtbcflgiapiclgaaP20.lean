/- Written by wip/tools/gprint.py of this repo over the translation: Lean functions that answer as the Go functions named below do, and the proof of it; the conditions stand in each theorem. -/
import Derived.Test.YtbcflgiapiclgaaP0
import Derived.Test.YtbcflgiapiclgaaP1
import Derived.Test.YtbcflgiapiclgaaP3
import Derived.Test.YtbcflgiapiclgaaP8
import Derived.Test.YtbcflgiapiclgaaHAll
namespace Go.Proofs.Ytbcflgiapiclgaa.P
open Go.RowKit Go.Proofs.YtbcflgiapiclgaaW.PrintWords Go.Proofs.YtbcflgiapiclgaaW.PrintLast Go.Proofs.YtbcflgiapiclgaaW.PrintMore
attribute [local go_sem] max2_int min2_int max_two min_two max_three min_three max_four min_four   -- for this text's walks alone
set_option linter.unusedVariables false
set_option linter.unusedSimpArgs false

/-! ### frisketlaw06_BreaksMarks: function 6 -/
mutual
def frisketlaw06_BreaksMarks.j0 : Nat → List Int → List Int → List Int → Bool → Option (Bool)
  | 0, _, _, _, _ => none
  | k + 1, x0, x3, x4, x28 => if x28 = true then (some false) else (frisketlaw06_BreaksMarks.l0 k x0 x3 x4 ([] : List Int) ([] : List Int) 0)
def frisketlaw06_BreaksMarks.l0 : Nat → List Int → List Int → List Int → List Int → List Int → Int → Option (Bool)
  | 0, _, _, _, _, _, _ => none
  | k + 1, x0, x3, x4, x5, x6, x7 => if x7 < (x0.length : Int) then (if x7 > 0 then (if 0 ≤ x7 then (if (rd x0 x7) = 10 then (if 0 ≤ (wrap64 (x7 - 1)) then (if (wrap64 (x7 - 1)) < (x4.length : Int) then (if (rd x4 (wrap64 (x7 - 1))) = 8 then (frisketlaw06_BreaksMarks.j2 k x0 x3 x4 x5 x6 x7 false) else (if (rd x4 (wrap64 (x7 - 1))) = 9 then (frisketlaw06_BreaksMarks.j2 k x0 x3 x4 x5 x6 x7 false) else (frisketlaw06_BreaksMarks.j2 k x0 x3 x4 x5 x6 x7 ((rd x4 (wrap64 (x7 - 1))) != 11)))) else (none)) else (none)) else (frisketlaw06_BreaksMarks.j2 k x0 x3 x4 x5 x6 x7 false)) else (none)) else (frisketlaw06_BreaksMarks.j2 k x0 x3 x4 x5 x6 x7 false)) else ((frisketlaw06_alive.f k).bind fun t223 => (if t223 = true then ((breaks_All.f x5).bind fun t224 => ((frisketref01_Ints.f k t224 x6).bind fun t227 => (some t227))) else (some false)))
def frisketlaw06_BreaksMarks.j2 : Nat → List Int → List Int → List Int → List Int → List Int → Int → Bool → Option (Bool)
  | 0, _, _, _, _, _, _, _ => none
  | k + 1, x0, x3, x4, x5, x6, x7, x8 => if x8 = true then (if 0 ≤ (wrap64 (x7 - 1)) then (if (wrap64 (x7 - 1)) < (x3.length : Int) then (if (rd x3 (wrap64 (x7 - 1))) = 0 then (if 0 ≤ x7 then (if x7 < (x3.length : Int) then (if 0 ≤ (wrap64 ((x6.length : Int) - 1)) then (if (wrap64 ((x6.length : Int) - 1)) < (x6.length : Int) then (frisketlaw06_BreaksMarks.l0 k x0 x3 x4 x5 (x6.set ((wrap64 ((x6.length : Int) - 1)) : Int).toNat (rd x3 x7)) (wrap64 (x7 + 1))) else (none)) else (none)) else (none)) else (none)) else (some false)) else (none)) else (none)) else (if 0 ≤ x7 then (if x7 < (x4.length : Int) then (if x5.length < 17592186044416 then (if x7 < (x3.length : Int) then (if x6.length < 17592186044416 then (frisketlaw06_BreaksMarks.l0 k x0 x3 x4 (x5 ++ [rd x4 x7]) (x6 ++ [rd x3 x7]) (wrap64 (x7 + 1))) else (none)) else (none)) else (none)) else (none)) else (none))
end
def frisketlaw06_BreaksMarks.f (k : Nat) (l0 : List Int) : Option (Bool) := if (l0.length : Int) > 80 then ((frisketlaw06_alive.f k).bind fun t216 => (some t216)) else ((breaks_All.f l0).bind fun t217 => ((breaks_Counts.f k l0).bind fun t220 => (if (t217.length : Int) = (l0.length : Int) then (frisketlaw06_BreaksMarks.j0 k l0 t217 t220 ((t220.length : Int) != (l0.length : Int))) else (frisketlaw06_BreaksMarks.j0 k l0 t217 t220 true))))
theorem frisketlaw06_BreaksMarks.mono_l : ∀ k, (∀ y0 y1 y2 y3, LeO (frisketlaw06_BreaksMarks.j0 k y0 y1 y2 y3) (frisketlaw06_BreaksMarks.j0 (k + 1) y0 y1 y2 y3)) ∧ (∀ y0 y1 y2 y3 y4 y5, LeO (frisketlaw06_BreaksMarks.l0 k y0 y1 y2 y3 y4 y5) (frisketlaw06_BreaksMarks.l0 (k + 1) y0 y1 y2 y3 y4 y5)) ∧ (∀ y0 y1 y2 y3 y4 y5 y6, LeO (frisketlaw06_BreaksMarks.j2 k y0 y1 y2 y3 y4 y5 y6) (frisketlaw06_BreaksMarks.j2 (k + 1) y0 y1 y2 y3 y4 y5 y6))
  | 0 => ⟨fun _ _ _ _ r h => by simp [frisketlaw06_BreaksMarks.j0] at h, fun _ _ _ _ _ _ r h => by simp [frisketlaw06_BreaksMarks.l0] at h, fun _ _ _ _ _ _ _ r h => by simp [frisketlaw06_BreaksMarks.j2] at h⟩
  | k + 1 => by
    obtain ⟨ih0, ih1, ih2⟩ := frisketlaw06_BreaksMarks.mono_l k
    refine ⟨?_, ?_, ?_⟩
    · intro y0 y1 y2 y3
      unfold frisketlaw06_BreaksMarks.j0
      repeat' first
      | (with_reducible exact ih0 _ _ _ _)
      | (with_reducible exact ih1 _ _ _ _ _ _)
      | (with_reducible exact ih2 _ _ _ _ _ _ _)
      | (with_reducible exact breaks_Counts.mono _ _)
      | (with_reducible exact frisketlaw06_alive.mono _)
      | (with_reducible exact frisketref01_Ints.mono _ _ _)
      | (with_reducible exact LeO.refl _)
      | (with_reducible exact LeO.none _)
      | (with_reducible refine LeO.ite ?_ ?_)
      | (with_reducible refine LeO.bind ?_ (fun _ => ?_))
      | exact ih0 _ _ _ _
      | exact ih1 _ _ _ _ _ _
      | exact ih2 _ _ _ _ _ _ _
      | exact breaks_Counts.mono _ _
      | exact frisketlaw06_alive.mono _
      | exact frisketref01_Ints.mono _ _ _
      | exact LeO.none _
      | refine LeO.ite ?_ ?_
      | refine LeO.bind ?_ (fun _ => ?_)
    · intro y0 y1 y2 y3 y4 y5
      unfold frisketlaw06_BreaksMarks.l0
      repeat' first
      | (with_reducible exact ih0 _ _ _ _)
      | (with_reducible exact ih1 _ _ _ _ _ _)
      | (with_reducible exact ih2 _ _ _ _ _ _ _)
      | (with_reducible exact breaks_Counts.mono _ _)
      | (with_reducible exact frisketlaw06_alive.mono _)
      | (with_reducible exact frisketref01_Ints.mono _ _ _)
      | (with_reducible exact LeO.refl _)
      | (with_reducible exact LeO.none _)
      | (with_reducible refine LeO.ite ?_ ?_)
      | (with_reducible refine LeO.bind ?_ (fun _ => ?_))
      | exact ih0 _ _ _ _
      | exact ih1 _ _ _ _ _ _
      | exact ih2 _ _ _ _ _ _ _
      | exact breaks_Counts.mono _ _
      | exact frisketlaw06_alive.mono _
      | exact frisketref01_Ints.mono _ _ _
      | exact LeO.none _
      | refine LeO.ite ?_ ?_
      | refine LeO.bind ?_ (fun _ => ?_)
    · intro y0 y1 y2 y3 y4 y5 y6
      unfold frisketlaw06_BreaksMarks.j2
      repeat' first
      | (with_reducible exact ih0 _ _ _ _)
      | (with_reducible exact ih1 _ _ _ _ _ _)
      | (with_reducible exact ih2 _ _ _ _ _ _ _)
      | (with_reducible exact breaks_Counts.mono _ _)
      | (with_reducible exact frisketlaw06_alive.mono _)
      | (with_reducible exact frisketref01_Ints.mono _ _ _)
      | (with_reducible exact LeO.refl _)
      | (with_reducible exact LeO.none _)
      | (with_reducible refine LeO.ite ?_ ?_)
      | (with_reducible refine LeO.bind ?_ (fun _ => ?_))
      | exact ih0 _ _ _ _
      | exact ih1 _ _ _ _ _ _
      | exact ih2 _ _ _ _ _ _ _
      | exact breaks_Counts.mono _ _
      | exact frisketlaw06_alive.mono _
      | exact frisketref01_Ints.mono _ _ _
      | exact LeO.none _
      | refine LeO.ite ?_ ?_
      | refine LeO.bind ?_ (fun _ => ?_)
theorem frisketlaw06_BreaksMarks.mono : ∀ a0 k, LeO (frisketlaw06_BreaksMarks.f k a0) (frisketlaw06_BreaksMarks.f (k + 1) a0) := by
  intro a0 k
  obtain ⟨ih0, ih1, ih2⟩ := frisketlaw06_BreaksMarks.mono_l k
  unfold frisketlaw06_BreaksMarks.f
  repeat' first
      | (with_reducible exact ih0 _ _ _ _)
      | (with_reducible exact ih1 _ _ _ _ _ _)
      | (with_reducible exact ih2 _ _ _ _ _ _ _)
      | (with_reducible exact breaks_Counts.mono _ _)
      | (with_reducible exact frisketlaw06_alive.mono _)
      | (with_reducible exact frisketref01_Ints.mono _ _ _)
      | (with_reducible exact LeO.refl _)
      | (with_reducible exact LeO.none _)
      | (with_reducible refine LeO.ite ?_ ?_)
      | (with_reducible refine LeO.bind ?_ (fun _ => ?_))
      | exact ih0 _ _ _ _
      | exact ih1 _ _ _ _ _ _
      | exact ih2 _ _ _ _ _ _ _
      | exact breaks_Counts.mono _ _
      | exact frisketlaw06_alive.mono _
      | exact frisketref01_Ints.mono _ _ _
      | exact LeO.none _
      | refine LeO.ite ?_ ?_
      | refine LeO.bind ?_ (fun _ => ?_)
set_option maxHeartbeats 8000000 in
set_option maxRecDepth 100000 in
theorem frisketlaw06_BreaksMarks.calls (k : Nat) (A0 : Option Addr) (c0 : Nat) (l0 : List Int) (r : Bool) (w : World) (hr0 : Kd.C (Kd.int .i64) w A0 l0.length l0) (hc0 : l0.length ≤ c0) (hrt : r = true) (h : frisketlaw06_BreaksMarks.f k l0 = some r) :
    Calls Try.prog 6 #[.slice A0 l0.length c0] w fun e w' => e = .returned (.bool r) ∧ Below w.heap.size w w' := by
  have HR0 := Aside0.mk hr0
  have HC0 := Aside0.mk hc0
  clear hr0 hc0
  have HB := Aside0.mk (Below.refl w.heap.size w)
  have HRT := Aside0.mk hrt
  clear hrt
  have H : (if (l0.length : Int) > 80 then ((frisketlaw06_alive.f k).bind fun t216 => (some t216)) else ((breaks_All.f l0).bind fun t217 => ((breaks_Counts.f k l0).bind fun t220 => (if (t217.length : Int) = (l0.length : Int) then (frisketlaw06_BreaksMarks.j0 k l0 t217 t220 ((t220.length : Int) != (l0.length : Int))) else (frisketlaw06_BreaksMarks.j0 k l0 t217 t220 true))))) = some r := h
  clear h
  by_cases c2 : (l0.length : Int) > 80
  · rw [if_pos c2] at H
    have c2b0 : decide (80 < (l0.length : Int)) = true := decide_eq_true c2
    have c2b1 : decide (80 < l0.length) = true := decide_eq_true (by omega)
    clear c2
    replace H := Option.bind_eq_some_iff.mp H
    obtain ⟨t216, A30, H⟩ := H
    replace H : (some t216) = some r := H
    have A3 := Aside0.mk A30
    clear A30
    obtain rfl := Option.some.inj H
    go_enter Try.func6, Try.ntmps6
    go_wp2_with (first | ((with_reducible refine gate_callee (f := 7) rfl ?_); refine goesL_ (some 12) rfl rfl Try.func7 (by kernel_rfl) rfl #[] rfl (by (try simp only [List.map_toArray, List.map_cons, List.map_nil]); first | done | rfl | (simp only [List.length_drop, List.length_take]; rfl)) ?_; (with_reducible refine (frisketlaw06_alive.calls k  t216 _ A3.out).mono ?_); rintro e w4 ⟨rfl, hb⟩; refine ⟨_, rfl, ?_⟩; have n0_ := Aside0.mk (below_step (by repeat (first | (with_reducible first | exact HB.out | apply below_alloc | apply pw_below_drewN | apply below_drew1) | exact HB.out)) hb); clear HB; have HB := n0_; clear n0_; (try clear hb); (try clear hb2); (try clear hk); (try clear hi)))
    go_ret
    exact ⟨by first | rfl | (simp [errW_none, errW_some] <;> rfl) | (simp [*, errW_none, errW_some] <;> rfl), by repeat (first | (with_reducible first | exact HB.out | apply below_alloc | apply pw_below_drewN | apply below_drew1) | exact HB.out)⟩
  · rw [if_neg c2] at H
    have c2b0 : decide (80 < (l0.length : Int)) = false := decide_eq_false c2
    have c2b1 : decide (80 < l0.length) = false := decide_eq_false (by omega)
    clear c2
    replace H := Option.bind_eq_some_iff.mp H
    obtain ⟨t217, A50, H⟩ := H
    replace H : ((breaks_Counts.f k l0).bind fun t220 => (if (t217.length : Int) = (l0.length : Int) then (frisketlaw06_BreaksMarks.j0 k l0 t217 t220 ((t220.length : Int) != (l0.length : Int))) else (frisketlaw06_BreaksMarks.j0 k l0 t217 t220 true))) = some r := H
    have A5 := Aside0.mk A50
    clear A50
    replace H := Option.bind_eq_some_iff.mp H
    obtain ⟨t220, A60, H⟩ := H
    replace H : (if (t217.length : Int) = (l0.length : Int) then (frisketlaw06_BreaksMarks.j0 k l0 t217 t220 ((t220.length : Int) != (l0.length : Int))) else (frisketlaw06_BreaksMarks.j0 k l0 t217 t220 true)) = some r := H
    have A6 := Aside0.mk A60
    clear A60
    have HC7 := Aside0.mk H
    clear H
    go_enter Try.func6, Try.ntmps6
    go_upto_region 5 with (first | ((with_reducible refine gate_callee (f := 9) rfl ?_); refine goesL_ (some 14) rfl rfl Try.func9 (by kernel_rfl) rfl #[.slice A0 l0.length c0] rfl (by (try simp only [List.map_toArray, List.map_cons, List.map_nil]); first | done | rfl | (simp only [List.length_drop, List.length_take]; rfl)) ?_; (with_reducible refine (breaks_All.calls _ _ l0 t217 _ ?side1 ?side2 A5.out).mono ?_); (case side1 => repeat (first | exact HR0.out | (with_reducible refine Kd.C_alloc ?_ _) | (with_reducible refine Kd.C_drewN ?_ _) | (with_reducible refine Kd.C_drew ?_))); (case side2 => exact HC0.out); rintro e w8 ⟨v218, rfl, ho0, hb⟩; refine ⟨_, rfl, ?_⟩; have n0_ := Aside0.mk (Kd.R_lower ho0 (below_size (by repeat (first | (with_reducible first | exact HB.out | apply below_alloc | apply pw_below_drewN | apply below_drew1) | exact HB.out)))); have n1_ := Aside0.mk (below_step (by repeat (first | (with_reducible first | exact HB.out | apply below_alloc | apply pw_below_drewN | apply below_drew1) | exact HB.out)) hb); clear HB; have HO219 := n0_; have HB := n1_; clear n0_ n1_; (try clear hb); (try clear hb2); (try clear hk); (try clear hi); (try clear ho0)) | ((with_reducible refine gate_callee (f := 12) rfl ?_); refine goesL_ (some 16) rfl rfl Try.func12 (by kernel_rfl) rfl #[.slice A0 l0.length c0] rfl (by (try simp only [List.map_toArray, List.map_cons, List.map_nil]); first | done | rfl | (simp only [List.length_drop, List.length_take]; rfl)) ?_; (with_reducible refine (breaks_Counts.calls k _ _ l0 t220 _ ?side1 ?side2 A6.out).mono ?_); (case side1 => repeat (first | exact (Kd.C_below HR0.out HB.out) | (with_reducible refine Kd.C_alloc ?_ _) | (with_reducible refine Kd.C_drewN ?_ _) | (with_reducible refine Kd.C_drew ?_))); (case side2 => exact HC0.out); rintro e w9 ⟨v221, rfl, ho0, hb⟩; refine ⟨_, rfl, ?_⟩; have n0_ := Aside0.mk (Kd.R_below (by (with_reducible repeat (first | apply Kd.R_alloc | apply Kd.R_drewN | apply Kd.R_drew)); exact HO219.out) hb); have n1_ := Aside0.mk (Kd.R_lower ho0 (below_size (by repeat (first | (with_reducible first | exact HB.out | apply below_alloc | apply pw_below_drewN | apply below_drew1) | exact HB.out)))); have n2_ := Aside0.mk (below_step (by repeat (first | (with_reducible first | exact HB.out | apply below_alloc | apply pw_below_drewN | apply below_drew1) | exact HB.out)) hb); clear HO219; clear HB; have HO219 := n0_; have HO222 := n1_; have HB := n2_; clear n0_ n1_ n2_; (try clear hb); (try clear hb2); (try clear hk); (try clear hi); (try clear ho0)))
    (try simp only [Act.put, List.setIfInBounds_toArray, List.set_cons_zero, List.set_cons_succ])
    go_cut [28] (fun v28 wc => ∃ (kq : Nat) (x28_6 : Bool), v28 = .bool x28_6 ∧ Aside0 (frisketlaw06_BreaksMarks.j0 kq l0 t217 t220 x28_6 = some r) ∧ Aside0 (kq ≤ k) ∧ Aside0 (Kd.R (Kd.int .i64) 3 wc w.heap.size (fun _ => True) v218 t217) ∧ Aside0 (Kd.R (Kd.int .i64) 31 wc w.heap.size (fun _ => True) v221 t220) ∧ Aside0 (Below w.heap.size w wc))
    case first =>
      have H := HC7.out
      clear HC7
      by_cases c10 : (t217.length : Int) = (l0.length : Int)
      · rw [if_pos c10] at H
        have c10b0 : ((t217.length : Int) == (l0.length : Int)) = true := beq_iff_eq.mpr c10
        have c10b1 : ((t217.length : Int) != (l0.length : Int)) = false := bne_eq_false_iff_eq.mpr c10
        have c10b2 : (t217.length == l0.length) = true := by first | simpa using c10 | (simp at c10 ⊢; omega)
        clear c10
        (first | rw [c10b0] | (simp only [i64_w, i32_w]; rw [c10b0]) | skip)
        have H' := Aside0.mk H
        clear H
        obtain ⟨Ao11, co11, eo11⟩ := Kd.R_slice HO219.out
        subst eo11
        obtain ⟨Ao12, co12, eo12⟩ := Kd.R_slice HO222.out
        subst eo12
        go_wp2
        go_meet
        case rel => exact ⟨_, (((t220.length : Int) != (l0.length : Int))), (by first | rfl | (simp; done) | (simp [*]; done)), H', ⟨by first | omega | exact Nat.le_refl _⟩, ⟨by (with_reducible repeat (first | apply Kd.R_alloc | apply Kd.R_drewN | apply Kd.R_drew)); exact HO219.out⟩, ⟨by (with_reducible repeat (first | apply Kd.R_alloc | apply Kd.R_drewN | apply Kd.R_drew)); exact HO222.out⟩, ⟨by repeat (first | (with_reducible first | exact HB.out | apply below_alloc | apply pw_below_drewN | apply below_drew1) | exact HB.out)⟩⟩
      · rw [if_neg c10] at H
        have c10b0 : ((t217.length : Int) == (l0.length : Int)) = false := beq_eq_false_iff_ne.mpr c10
        have c10b1 : ((t217.length : Int) != (l0.length : Int)) = true := bne_iff_ne.mpr c10
        have c10b2 : (t217.length == l0.length) = false := by first | simpa using c10 | (simp at c10 ⊢; omega)
        (first | rw [c10b0] | (simp only [i64_w, i32_w]; rw [c10b0]) | skip)
        have H' := Aside0.mk H
        clear H
        obtain ⟨Ao13, co13, eo13⟩ := Kd.R_slice HO219.out
        subst eo13
        go_wp2
        go_meet
        case rel => exact ⟨_, (true), (by first | rfl | (simp; done) | (simp [*]; done)), H', ⟨by first | omega | exact Nat.le_refl _⟩, ⟨by (with_reducible repeat (first | apply Kd.R_alloc | apply Kd.R_drewN | apply Kd.R_drew)); exact HO219.out⟩, ⟨by (with_reducible repeat (first | apply Kd.R_alloc | apply Kd.R_drewN | apply Kd.R_drew)); exact HO222.out⟩, ⟨by repeat (first | (with_reducible first | exact HB.out | apply below_alloc | apply pw_below_drewN | apply below_drew1) | exact HB.out)⟩⟩
    case rest =>
      clear HC7
      try clear c1
      try clear c2
      try clear c2b0
      try clear c2b1
      try clear p2
      try clear c6
      try clear c7
      try clear c9
      try clear c10
      try clear c10b0
      try clear c10b1
      try clear c10b2
      try clear c12
      obtain ⟨kq, x28_6, rfl, HA, HJ6, HO_3, HO_4, HB⟩ := hcut
      cases kq with
      | zero => exact absurd HA.out (by simp [frisketlaw06_BreaksMarks.j0])
      | succ kj6 =>
        have H := HA.out
        clear HA
        simp only [frisketlaw06_BreaksMarks.j0] at H
        by_cases c14 : x28_6 = true
        · subst c14
          have H1 : (some false) = some r := by rw [if_pos rfl] at H; exact H
          clear H
          have H := H1
          clear H1
          exact af_absurd HRT.out H (by repeat (first | exact AF.none | exact AF.false | refine AF.ite ?_ ?_ | refine AF.bind (fun _ => ?_)))
        · replace c14 := Bool.eq_false_iff.mpr c14
          subst c14
          have H1 : (frisketlaw06_BreaksMarks.l0 kj6 l0 t217 t220 ([] : List Int) ([] : List Int) 0) = some r := by rw [if_neg (show ¬ (false = true) by decide)] at H; exact H
          clear H
          have H := H1
          clear H1
          have H' := Aside0.mk H
          clear H
          go_wp2
          go_loopg [5, 6, 7] kj6 (fun kq v5 v6 v7 w' => ∃ (x3_2 : List Int) (x5_2 : List Int) (x6_2 : List Int) (x7_2 : Int), v7 = .int .i64 x7_2 ∧ Aside0 (frisketlaw06_BreaksMarks.l0 kq l0 x3_2 t220 x5_2 x6_2 x7_2 = some r) ∧ Aside0 (kq ≤ kj6) ∧ Aside0 (Kd.R (Kd.int .i64) 3 w' w.heap.size (fun k_ => some k_ ≠ (v6 : Value).ownBlock) v218 x3_2) ∧ Aside0 (Kd.R (Kd.int .i64) 31 w' w.heap.size (fun k_ => some k_ ≠ (v5 : Value).ownBlock) v221 t220) ∧ Aside0 (Kd.R (Kd.int .i64) 31 w' w.heap.size (fun k_ => some k_ ≠ (v221 : Value).ownBlock) v5 x5_2) ∧ Aside0 (Kd.R (Kd.int .i64) 3 w' w.heap.size (fun k_ => some k_ ≠ (v218 : Value).ownBlock) v6 x6_2) ∧ Aside0 (Below w.heap.size w w'))
          case atStart => exact ⟨(t217), (([] : List Int)), (([] : List Int)), (0), (by first | rfl | (simp; done) | (simp [*]; done)), H', ⟨Nat.le_refl _⟩, ⟨by (with_reducible repeat (first | apply Kd.R_alloc | apply Kd.R_drewN | apply Kd.R_drew)); exact Kd.R_mono HO_3.out (fun _ hk => (by simp [Value.ownBlock]))⟩, ⟨by (with_reducible repeat (first | apply Kd.R_alloc | apply Kd.R_drewN | apply Kd.R_drew)); exact Kd.R_mono HO_4.out (fun _ hk => (by simp [Value.ownBlock]))⟩, ⟨by first | exact Kd.R_nil _ _ _ _ _ | exact Kd.N_nil _ _ _ _ _ | exact Kd.V_nil _ _ _ _ _ | exact Kd.Q_nil _ _ _ _ _ | exact Kd.S_nil _ _ _ _ _⟩, ⟨by first | exact Kd.R_nil _ _ _ _ _ | exact Kd.N_nil _ _ _ _ _ | exact Kd.V_nil _ _ _ _ _ | exact Kd.Q_nil _ _ _ _ _ | exact Kd.S_nil _ _ _ _ _⟩, ⟨by repeat (first | (with_reducible first | exact HB.out | apply below_alloc | apply pw_below_drewN | apply below_drew1) | exact HB.out)⟩⟩
          case round =>
            clear H'
            try clear c1
            try clear c2
            try clear c2b0
            try clear c2b1
            try clear p2
            try clear c6
            try clear c7
            try clear c9
            try clear c10
            try clear c10b0
            try clear c10b1
            try clear c10b2
            try clear c12
            try clear c14
            try clear p2
            obtain ⟨x3_2, x5_2, x6_2, x7_2, rfl, HA, HK2, HO_3, HO_4, HO_5, HO_6, HB⟩ := hrel
            cases gk with
            | zero => exact absurd HA.out (by simp [frisketlaw06_BreaksMarks.l0])
            | succ k2 =>
              have H := HA.out
              clear HA
              simp only [frisketlaw06_BreaksMarks.l0] at H
              by_cases c15 : x7_2 < (l0.length : Int)
              · rw [if_pos c15] at H
                have c15b0 : decide (x7_2 < (l0.length : Int)) = true := decide_eq_true c15
                clear c15
                have HC16 := Aside0.mk H
                clear H
                go_upto_region 12 with (fail)
                go_cut [8] (fun v8 wc => ∃ (kq : Nat) (x8_15 : Bool), v8 = .bool x8_15 ∧ Aside0 (frisketlaw06_BreaksMarks.j2 kq l0 x3_2 t220 x5_2 x6_2 x7_2 x8_15 = some r) ∧ Aside0 (kq ≤ k2) ∧ Aside0 (Kd.R (Kd.int .i64) 3 wc w.heap.size (fun k_ => some k_ ≠ (u6 : Value).ownBlock) v218 x3_2) ∧ Aside0 (Kd.R (Kd.int .i64) 31 wc w.heap.size (fun k_ => some k_ ≠ (u5 : Value).ownBlock) v221 t220) ∧ Aside0 (Kd.R (Kd.int .i64) 31 wc w.heap.size (fun k_ => some k_ ≠ (v221 : Value).ownBlock) u5 x5_2) ∧ Aside0 (Kd.R (Kd.int .i64) 3 wc w.heap.size (fun k_ => some k_ ≠ (v218 : Value).ownBlock) u6 x6_2) ∧ Aside0 (Below w.heap.size w wc))
                case first =>
                  have H := HC16.out
                  clear HC16
                  by_cases c17 : x7_2 > 0
                  · rw [if_pos c17] at H
                    have c17b0 : decide (0 < x7_2) = true := decide_eq_true c17
                    clear c17
                    (first | rw [c17b0] | (simp only [i64_w, i32_w]; rw [c17b0]) | skip)
                    by_cases c18 : 0 ≤ x7_2
                    · rw [if_pos c18] at H
                      have c18b0 : decide (0 ≤ x7_2) = true := decide_eq_true c18
                      clear c18
                      by_cases c19 : (rd l0 x7_2) = 10
                      · rw [if_pos c19] at H
                        have c19b0 : ((rd l0 x7_2) == 10) = true := beq_iff_eq.mpr c19
                        have c19b1 : ((rd l0 x7_2) != 10) = false := bne_eq_false_iff_eq.mpr c19
                        clear c19
                        obtain ⟨ji20, hji20⟩ : ∃ j_ : Int, (wrap64 (x7_2 - 1)) = j_ := ⟨_, rfl⟩
                        replace H : (if 0 ≤ (ji20) then (if (ji20) < (t220.length : Int) then (if (rd t220 (ji20)) = 8 then (frisketlaw06_BreaksMarks.j2 k2 l0 x3_2 t220 x5_2 x6_2 x7_2 false) else (if (rd t220 (ji20)) = 9 then (frisketlaw06_BreaksMarks.j2 k2 l0 x3_2 t220 x5_2 x6_2 x7_2 false) else (frisketlaw06_BreaksMarks.j2 k2 l0 x3_2 t220 x5_2 x6_2 x7_2 ((rd t220 (ji20)) != 11)))) else (none)) else (none)) = some r := by first | (rw [hji20] at H; exact H) | (simp only [hji20] at H ⊢; exact H)
                        have hji20w : (IntKind.i64.wrap (x7_2 - 1)) = ji20 := (i64_w _).trans hji20
                        by_cases c21 : 0 ≤ (ji20)
                        · rw [if_pos c21] at H
                          have c21b0 : decide (0 ≤ (ji20)) = true := decide_eq_true c21
                          clear c21
                          by_cases c22 : (ji20) < (t220.length : Int)
                          · rw [if_pos c22] at H
                            have c22b0 : decide ((ji20) < (t220.length : Int)) = true := decide_eq_true c22
                            clear c22
                            by_cases c23 : (rd t220 (ji20)) = 8
                            · rw [if_pos c23] at H
                              have c23b0 : ((rd t220 (ji20)) == 8) = true := beq_iff_eq.mpr c23
                              have c23b1 : ((rd t220 (ji20)) != 8) = false := bne_eq_false_iff_eq.mpr c23
                              clear c23
                              have H' := Aside0.mk H
                              clear H
                              have p228 : 0 ≤ (x7_2 : Int) := of_decide_eq_true (by first | (with_reducible assumption) | assumption)
                              have q228 : x7_2 < (l0.length : Int) := of_decide_eq_true (by first | (with_reducible assumption) | assumption)
                              obtain ⟨ad228, e228, hx228_0⟩ := Kd.at_int HR0.out x7_2 p228 q228
                              cases e228
                              replace hx228_0 := (HB.out.cell (World.block_lt_of_cell? w _ hx228_0)).trans hx228_0
                              replace p228 := eq_true p228
                              replace q228 := eq_true q228
                              obtain ⟨Ao24, co24, eo24⟩ := Kd.R_slice HO_4.out
                              subst eo24
                              have p229 : 0 ≤ ((ji20) : Int) := of_decide_eq_true (by first | (with_reducible assumption) | assumption)
                              have q229 : (ji20) < (t220.length : Int) := of_decide_eq_true (by first | (with_reducible assumption) | assumption)
                              obtain ⟨ad229, e229, hx229_0⟩ := Kd.at_int (Kd.R_reads' HO_4.out).2.2 (ji20) p229 q229
                              cases e229
                              replace p229 := eq_true p229
                              replace q229 := eq_true q229
                              go_wp2
                              go_meet
                              case rel => exact ⟨_, (false), (by first | rfl | (simp; done) | (simp [*]; done)), H', ⟨by have := HJ6.out; have := HK2.out; first | omega | exact Nat.le_refl _⟩, ⟨by (with_reducible repeat (first | apply Kd.R_alloc | apply Kd.R_drewN | apply Kd.R_drew)); exact HO_3.out⟩, ⟨by (with_reducible repeat (first | apply Kd.R_alloc | apply Kd.R_drewN | apply Kd.R_drew)); exact HO_4.out⟩, ⟨by (with_reducible repeat (first | apply Kd.R_alloc | apply Kd.R_drewN | apply Kd.R_drew)); exact HO_5.out⟩, ⟨by (with_reducible repeat (first | apply Kd.R_alloc | apply Kd.R_drewN | apply Kd.R_drew)); exact HO_6.out⟩, ⟨by repeat (first | (with_reducible first | exact HB.out | apply below_alloc | apply pw_below_drewN | apply below_drew1) | exact HB.out)⟩⟩
                            · rw [if_neg c23] at H
                              have c23b0 : ((rd t220 (ji20)) == 8) = false := beq_eq_false_iff_ne.mpr c23
                              have c23b1 : ((rd t220 (ji20)) != 8) = true := bne_iff_ne.mpr c23
                              by_cases c25 : (rd t220 (ji20)) = 9
                              · rw [if_pos c25] at H
                                have c25b0 : ((rd t220 (ji20)) == 9) = true := beq_iff_eq.mpr c25
                                have c25b1 : ((rd t220 (ji20)) != 9) = false := bne_eq_false_iff_eq.mpr c25
                                clear c25
                                have H' := Aside0.mk H
                                clear H
                                have p228 : 0 ≤ (x7_2 : Int) := of_decide_eq_true (by first | (with_reducible assumption) | assumption)
                                have q228 : x7_2 < (l0.length : Int) := of_decide_eq_true (by first | (with_reducible assumption) | assumption)
                                obtain ⟨ad228, e228, hx228_0⟩ := Kd.at_int HR0.out x7_2 p228 q228
                                cases e228
                                replace hx228_0 := (HB.out.cell (World.block_lt_of_cell? w _ hx228_0)).trans hx228_0
                                replace p228 := eq_true p228
                                replace q228 := eq_true q228
                                obtain ⟨Ao26, co26, eo26⟩ := Kd.R_slice HO_4.out
                                subst eo26
                                have p229 : 0 ≤ ((ji20) : Int) := of_decide_eq_true (by first | (with_reducible assumption) | assumption)
                                have q229 : (ji20) < (t220.length : Int) := of_decide_eq_true (by first | (with_reducible assumption) | assumption)
                                obtain ⟨ad229, e229, hx229_0⟩ := Kd.at_int (Kd.R_reads' HO_4.out).2.2 (ji20) p229 q229
                                cases e229
                                replace p229 := eq_true p229
                                replace q229 := eq_true q229
                                have p230 : 0 ≤ ((ji20) : Int) := of_decide_eq_true (by first | (with_reducible assumption) | assumption)
                                have q230 : (ji20) < (t220.length : Int) := of_decide_eq_true (by first | (with_reducible assumption) | assumption)
                                obtain ⟨ad230, e230, hx230_0⟩ := Kd.at_int (Kd.R_reads' HO_4.out).2.2 (ji20) p230 q230
                                obtain rfl : ad229 = ad230 := (by injection e230)
                                replace p230 := eq_true p230
                                replace q230 := eq_true q230
                                go_wp2
                                go_meet
                                case rel => exact ⟨_, (false), (by first | rfl | (simp; done) | (simp [*]; done)), H', ⟨by have := HJ6.out; have := HK2.out; first | omega | exact Nat.le_refl _⟩, ⟨by (with_reducible repeat (first | apply Kd.R_alloc | apply Kd.R_drewN | apply Kd.R_drew)); exact HO_3.out⟩, ⟨by (with_reducible repeat (first | apply Kd.R_alloc | apply Kd.R_drewN | apply Kd.R_drew)); exact HO_4.out⟩, ⟨by (with_reducible repeat (first | apply Kd.R_alloc | apply Kd.R_drewN | apply Kd.R_drew)); exact HO_5.out⟩, ⟨by (with_reducible repeat (first | apply Kd.R_alloc | apply Kd.R_drewN | apply Kd.R_drew)); exact HO_6.out⟩, ⟨by repeat (first | (with_reducible first | exact HB.out | apply below_alloc | apply pw_below_drewN | apply below_drew1) | exact HB.out)⟩⟩
                              · rw [if_neg c25] at H
                                have c25b0 : ((rd t220 (ji20)) == 9) = false := beq_eq_false_iff_ne.mpr c25
                                have c25b1 : ((rd t220 (ji20)) != 9) = true := bne_iff_ne.mpr c25
                                have H' := Aside0.mk H
                                clear H
                                have p228 : 0 ≤ (x7_2 : Int) := of_decide_eq_true (by first | (with_reducible assumption) | assumption)
                                have q228 : x7_2 < (l0.length : Int) := of_decide_eq_true (by first | (with_reducible assumption) | assumption)
                                obtain ⟨ad228, e228, hx228_0⟩ := Kd.at_int HR0.out x7_2 p228 q228
                                cases e228
                                replace hx228_0 := (HB.out.cell (World.block_lt_of_cell? w _ hx228_0)).trans hx228_0
                                replace p228 := eq_true p228
                                replace q228 := eq_true q228
                                obtain ⟨Ao27, co27, eo27⟩ := Kd.R_slice HO_4.out
                                subst eo27
                                have p229 : 0 ≤ ((ji20) : Int) := of_decide_eq_true (by first | (with_reducible assumption) | assumption)
                                have q229 : (ji20) < (t220.length : Int) := of_decide_eq_true (by first | (with_reducible assumption) | assumption)
                                obtain ⟨ad229, e229, hx229_0⟩ := Kd.at_int (Kd.R_reads' HO_4.out).2.2 (ji20) p229 q229
                                cases e229
                                replace p229 := eq_true p229
                                replace q229 := eq_true q229
                                have p230 : 0 ≤ ((ji20) : Int) := of_decide_eq_true (by first | (with_reducible assumption) | assumption)
                                have q230 : (ji20) < (t220.length : Int) := of_decide_eq_true (by first | (with_reducible assumption) | assumption)
                                obtain ⟨ad230, e230, hx230_0⟩ := Kd.at_int (Kd.R_reads' HO_4.out).2.2 (ji20) p230 q230
                                obtain rfl : ad229 = ad230 := (by injection e230)
                                replace p230 := eq_true p230
                                replace q230 := eq_true q230
                                have p231 : 0 ≤ ((ji20) : Int) := of_decide_eq_true (by first | (with_reducible assumption) | assumption)
                                have q231 : (ji20) < (t220.length : Int) := of_decide_eq_true (by first | (with_reducible assumption) | assumption)
                                obtain ⟨ad231, e231, hx231_0⟩ := Kd.at_int (Kd.R_reads' HO_4.out).2.2 (ji20) p231 q231
                                obtain rfl : ad229 = ad231 := (by injection e231)
                                replace p231 := eq_true p231
                                replace q231 := eq_true q231
                                go_wp2
                                go_meet
                                case rel => exact ⟨_, (((rd t220 (ji20)) != 11)), (by first | rfl | (simp; done) | (simp only [← hji20] <;> (first | rfl | simp)) | (simp [*]; done)), H', ⟨by have := HJ6.out; have := HK2.out; first | omega | exact Nat.le_refl _⟩, ⟨by (with_reducible repeat (first | apply Kd.R_alloc | apply Kd.R_drewN | apply Kd.R_drew)); exact HO_3.out⟩, ⟨by (with_reducible repeat (first | apply Kd.R_alloc | apply Kd.R_drewN | apply Kd.R_drew)); exact HO_4.out⟩, ⟨by (with_reducible repeat (first | apply Kd.R_alloc | apply Kd.R_drewN | apply Kd.R_drew)); exact HO_5.out⟩, ⟨by (with_reducible repeat (first | apply Kd.R_alloc | apply Kd.R_drewN | apply Kd.R_drew)); exact HO_6.out⟩, ⟨by repeat (first | (with_reducible first | exact HB.out | apply below_alloc | apply pw_below_drewN | apply below_drew1) | exact HB.out)⟩⟩
                          · rw [if_neg c22] at H
                            exact absurd H (by simp)
                        · rw [if_neg c21] at H
                          exact absurd H (by simp)
                      · rw [if_neg c19] at H
                        have c19b0 : ((rd l0 x7_2) == 10) = false := beq_eq_false_iff_ne.mpr c19
                        have c19b1 : ((rd l0 x7_2) != 10) = true := bne_iff_ne.mpr c19
                        have H' := Aside0.mk H
                        clear H
                        have p228 : 0 ≤ (x7_2 : Int) := of_decide_eq_true (by first | (with_reducible assumption) | assumption)
                        have q228 : x7_2 < (l0.length : Int) := of_decide_eq_true (by first | (with_reducible assumption) | assumption)
                        obtain ⟨ad228, e228, hx228_0⟩ := Kd.at_int HR0.out x7_2 p228 q228
                        cases e228
                        replace hx228_0 := (HB.out.cell (World.block_lt_of_cell? w _ hx228_0)).trans hx228_0
                        replace p228 := eq_true p228
                        replace q228 := eq_true q228
                        go_wp2
                        go_meet
                        case rel => exact ⟨_, (false), (by first | rfl | (simp; done) | (simp [*]; done)), H', ⟨by have := HJ6.out; have := HK2.out; first | omega | exact Nat.le_refl _⟩, ⟨by (with_reducible repeat (first | apply Kd.R_alloc | apply Kd.R_drewN | apply Kd.R_drew)); exact HO_3.out⟩, ⟨by (with_reducible repeat (first | apply Kd.R_alloc | apply Kd.R_drewN | apply Kd.R_drew)); exact HO_4.out⟩, ⟨by (with_reducible repeat (first | apply Kd.R_alloc | apply Kd.R_drewN | apply Kd.R_drew)); exact HO_5.out⟩, ⟨by (with_reducible repeat (first | apply Kd.R_alloc | apply Kd.R_drewN | apply Kd.R_drew)); exact HO_6.out⟩, ⟨by repeat (first | (with_reducible first | exact HB.out | apply below_alloc | apply pw_below_drewN | apply below_drew1) | exact HB.out)⟩⟩
                    · rw [if_neg c18] at H
                      exact absurd H (by simp)
                  · rw [if_neg c17] at H
                    have c17b0 : decide (0 < x7_2) = false := decide_eq_false c17
                    clear c17
                    (first | rw [c17b0] | (simp only [i64_w, i32_w]; rw [c17b0]) | skip)
                    have H' := Aside0.mk H
                    clear H
                    go_wp2
                    go_meet
                    case rel => exact ⟨_, (false), (by first | rfl | (simp; done) | (simp [*]; done)), H', ⟨by have := HJ6.out; have := HK2.out; first | omega | exact Nat.le_refl _⟩, ⟨by (with_reducible repeat (first | apply Kd.R_alloc | apply Kd.R_drewN | apply Kd.R_drew)); exact HO_3.out⟩, ⟨by (with_reducible repeat (first | apply Kd.R_alloc | apply Kd.R_drewN | apply Kd.R_drew)); exact HO_4.out⟩, ⟨by (with_reducible repeat (first | apply Kd.R_alloc | apply Kd.R_drewN | apply Kd.R_drew)); exact HO_5.out⟩, ⟨by (with_reducible repeat (first | apply Kd.R_alloc | apply Kd.R_drewN | apply Kd.R_drew)); exact HO_6.out⟩, ⟨by repeat (first | (with_reducible first | exact HB.out | apply below_alloc | apply pw_below_drewN | apply below_drew1) | exact HB.out)⟩⟩
                case rest =>
                  clear HC16
                  try clear c1
                  try clear c2
                  try clear c2b0
                  try clear c2b1
                  try clear p2
                  try clear q2
                  try clear hx2
                  try clear c6
                  try clear p6
                  try clear c7
                  try clear c9
                  try clear c10
                  try clear c10b0
                  try clear c10b1
                  try clear c10b2
                  try clear c12
                  try clear c14
                  try clear c15
                  try clear c15b0
                  try clear c17
                  try clear c17b0
                  try clear c18
                  try clear c18b0
                  try clear c19
                  try clear c19b0
                  try clear c19b1
                  try clear c21
                  try clear c21b0
                  try clear c22
                  try clear c22b0
                  try clear p22
                  try clear q22
                  try clear hx22
                  try clear c23
                  try clear c23b0
                  try clear c23b1
                  try clear p23
                  try clear q23
                  try clear hx23
                  try clear c25
                  try clear c25b0
                  try clear c25b1
                  try clear hx228_0
                  try clear hx229_0
                  try clear hx230_0
                  try clear hx231_0
                  try clear p2
                  try clear p228
                  try clear p229
                  try clear p230
                  try clear p231
                  try clear q228
                  try clear q229
                  try clear q230
                  try clear q231
                  obtain ⟨kq, x8_15, rfl, HA, HJ15, HO_3, HO_4, HO_5, HO_6, HB⟩ := hcut
                  cases kq with
                  | zero => exact absurd HA.out (by simp [frisketlaw06_BreaksMarks.j2])
                  | succ kj15 =>
                    have H := HA.out
                    clear HA
                    simp only [frisketlaw06_BreaksMarks.j2] at H
                    by_cases c28 : x8_15 = true
                    · subst c28
                      have H1 : (if 0 ≤ (wrap64 (x7_2 - 1)) then (if (wrap64 (x7_2 - 1)) < (x3_2.length : Int) then (if (rd x3_2 (wrap64 (x7_2 - 1))) = 0 then (if 0 ≤ x7_2 then (if x7_2 < (x3_2.length : Int) then (if 0 ≤ (wrap64 ((x6_2.length : Int) - 1)) then (if (wrap64 ((x6_2.length : Int) - 1)) < (x6_2.length : Int) then (frisketlaw06_BreaksMarks.l0 kj15 l0 x3_2 t220 x5_2 (x6_2.set ((wrap64 ((x6_2.length : Int) - 1)) : Int).toNat (rd x3_2 x7_2)) (wrap64 (x7_2 + 1))) else (none)) else (none)) else (none)) else (none)) else (some false)) else (none)) else (none)) = some r := by rw [if_pos rfl] at H; exact H
                      clear H
                      have H := H1
                      clear H1
                      obtain ⟨ji29, hji29⟩ : ∃ j_ : Int, (wrap64 (x7_2 - 1)) = j_ := ⟨_, rfl⟩
                      replace H : (if 0 ≤ (ji29) then (if (ji29) < (x3_2.length : Int) then (if (rd x3_2 (ji29)) = 0 then (if 0 ≤ x7_2 then (if x7_2 < (x3_2.length : Int) then (if 0 ≤ (wrap64 ((x6_2.length : Int) - 1)) then (if (wrap64 ((x6_2.length : Int) - 1)) < (x6_2.length : Int) then (frisketlaw06_BreaksMarks.l0 kj15 l0 x3_2 t220 x5_2 (x6_2.set ((wrap64 ((x6_2.length : Int) - 1)) : Int).toNat (rd x3_2 x7_2)) (wrap64 (x7_2 + 1))) else (none)) else (none)) else (none)) else (none)) else (some false)) else (none)) else (none)) = some r := by first | (rw [hji29] at H; exact H) | (simp only [hji29] at H ⊢; exact H)
                      have hji29w : (IntKind.i64.wrap (x7_2 - 1)) = ji29 := (i64_w _).trans hji29
                      by_cases c30 : 0 ≤ (ji29)
                      · rw [if_pos c30] at H
                        have c30b0 : decide (0 ≤ (ji29)) = true := decide_eq_true c30
                        clear c30
                        by_cases c31 : (ji29) < (x3_2.length : Int)
                        · rw [if_pos c31] at H
                          have c31b0 : decide ((ji29) < (x3_2.length : Int)) = true := decide_eq_true c31
                          clear c31
                          by_cases c32 : (rd x3_2 (ji29)) = 0
                          · rw [if_pos c32] at H
                            have c32b0 : ((rd x3_2 (ji29)) == 0) = true := beq_iff_eq.mpr c32
                            have c32b1 : ((rd x3_2 (ji29)) != 0) = false := bne_eq_false_iff_eq.mpr c32
                            clear c32
                            by_cases c33 : 0 ≤ x7_2
                            · rw [if_pos c33] at H
                              have c33b0 : decide (0 ≤ x7_2) = true := decide_eq_true c33
                              clear c33
                              by_cases c34 : x7_2 < (x3_2.length : Int)
                              · rw [if_pos c34] at H
                                have c34b0 : decide (x7_2 < (x3_2.length : Int)) = true := decide_eq_true c34
                                clear c34
                                obtain ⟨ji35, hji35⟩ : ∃ j_ : Int, (wrap64 ((x6_2.length : Int) - 1)) = j_ := ⟨_, rfl⟩
                                replace H : (if 0 ≤ (ji35) then (if (ji35) < (x6_2.length : Int) then (frisketlaw06_BreaksMarks.l0 kj15 l0 x3_2 t220 x5_2 (x6_2.set ((ji35) : Int).toNat (rd x3_2 x7_2)) (wrap64 (x7_2 + 1))) else (none)) else (none)) = some r := by first | (rw [hji35] at H; exact H) | (simp only [hji35] at H ⊢; exact H)
                                have hji35w : (IntKind.i64.wrap ((x6_2.length : Int) - 1)) = ji35 := (i64_w _).trans hji35
                                by_cases c36 : 0 ≤ (ji35)
                                · rw [if_pos c36] at H
                                  have c36b0 : decide (0 ≤ (ji35)) = true := decide_eq_true c36
                                  clear c36
                                  by_cases c37 : (ji35) < (x6_2.length : Int)
                                  · rw [if_pos c37] at H
                                    have c37b0 : decide ((ji35) < (x6_2.length : Int)) = true := decide_eq_true c37
                                    clear c37
                                    obtain ⟨y234, hy234⟩ : ∃ y_ : List Int, y_ = (x6_2.set ((ji35) : Int).toNat (rd x3_2 x7_2)) := ⟨_, rfl⟩
                                    replace H : (frisketlaw06_BreaksMarks.l0 kj15 l0 x3_2 t220 x5_2 y234 (wrap64 (x7_2 + 1))) = some r := by first | (rw [hy234]; with_reducible exact H) | (have H2_ := (Option.bind_some _ _).symm.trans H; rw [hy234]; with_reducible exact H2_) | (have H2_ := (Option.bind_some _ _).symm.trans H; with_reducible exact H2_) | with_reducible exact H | (rw [hy234]; exact H) | exact H
                                    have Ny234 := Aside0.mk hy234
                                    clear hy234
                                    have H' := Aside0.mk H
                                    clear H
                                    obtain ⟨Ao39, co39, eo39⟩ := Kd.R_slice HO_3.out
                                    subst eo39
                                    have p232 : 0 ≤ ((ji29) : Int) := of_decide_eq_true (by first | (with_reducible assumption) | assumption)
                                    have q232 : (ji29) < (x3_2.length : Int) := of_decide_eq_true (by first | (with_reducible assumption) | assumption)
                                    obtain ⟨ad232, e232, hx232_0⟩ := Kd.at_int (Kd.R_reads' HO_3.out).2.2 (ji29) p232 q232
                                    cases e232
                                    replace p232 := eq_true p232
                                    replace q232 := eq_true q232
                                    obtain ⟨Ao40, co40, eo40⟩ := Kd.R_slice HO_6.out
                                    subst eo40
                                    have p233 : 0 ≤ (x7_2 : Int) := of_decide_eq_true (by first | (with_reducible assumption) | assumption)
                                    have q233 : x7_2 < (x3_2.length : Int) := of_decide_eq_true (by first | (with_reducible assumption) | assumption)
                                    obtain ⟨ad233, e233, hx233_0⟩ := Kd.at_int (Kd.R_reads' HO_3.out).2.2 x7_2 p233 q233
                                    obtain rfl : ad232 = ad233 := (by injection e233)
                                    replace p233 := eq_true p233
                                    replace q233 := eq_true q233
                                    have p38 : 0 ≤ ((ji35) : Int) := of_decide_eq_true (by first | (with_reducible assumption) | assumption)
                                    have q38 : ((ji35) : Int) < ((x6_2.length : Int) : Int) := of_decide_eq_true (by first | (with_reducible assumption) | assumption)
                                    obtain ⟨go38, co38, eo38, gb38, gl38, cl38, HG38⟩ := Kd.R_form HO_6.out (by omega)
                                    (first | cases eo38 | (injection eo38 with ea_ en_ ec_; (first | subst ea_ | (injection ea_ with ea_; subst ea_)); subst ec_; clear en_))
                                    have GB38 := Aside0.mk gb38
                                    have GG38 := Aside0.mk HG38
                                    clear gb38 gl38 HG38
                                    obtain ⟨hx38_0, hf38_0⟩ := Kd.R_celln 0 HO_6.out ((ji35) : Int) p38 q38
                                    replace p38 := eq_true p38
                                    replace q38 := eq_true q38
                                    have HP41 := Kd.R_putg HO_6.out ((ji35) : Int) (rd x3_2 x7_2)
                                    go_wp2_with (first | ((with_reducible refine gate_store (t := 3) (p := 83) rfl ?_); refine store_event (t := 3) (p := 83) (v := ?vo_w42) (w1 := (wc.setCell ⟨go38, ((ji35) : Int).toNat, none⟩ (.int .i64 (rd x3_2 x7_2)))) ?hg ?ho ?hn ?hr ?_; (case ho => rfl); (case hg => rfl); (case hn => rfl); (case hr => first | (go_simp; done) | (go_simp; rfl)); intro w42 hw; have hg : wc.grownBy w42 (some go38) := (by rw [hw]; exact HP41.2); have hp_ : Kd.R (Kd.int .i64) 3 w42 w.heap.size (fun k_ => some k_ ≠ (.slice (some ad232) x3_2.length co39 : Value).ownBlock) (.slice (some ⟨go38, 0, none⟩) x6_2.length co40) y234 := (by rw [hw, Ny234.out]; exact HP41.1); clear HP41; have n0_ := Aside0.mk (Kd.R_after (v := (.slice (some ⟨go38, 0, none⟩) x6_2.length co40)) (v1 := (.slice (some ⟨go38, 0, none⟩) x6_2.length co40)) (ok := (fun _ => True)) (by (with_reducible repeat (first | apply Kd.R_alloc | apply Kd.R_drewN | apply Kd.R_drew)); exact Kd.R_mono HO_3.out (fun _ hk => ⟨trivial, hk⟩)) hg (.inl rfl)); have n1_ := Aside0.mk (Kd.R_over' (v := (.slice (some ⟨go38, 0, none⟩) x6_2.length co40)) (by (with_reducible repeat (first | apply Kd.R_alloc | apply Kd.R_drewN | apply Kd.R_drew)); exact HO_4.out) (Kd.R_typed HO_6.out) (by decide) hg); have n2_ := Aside0.mk (Kd.R_over' (v := (.slice (some ⟨go38, 0, none⟩) x6_2.length co40)) (by (with_reducible repeat (first | apply Kd.R_alloc | apply Kd.R_drewN | apply Kd.R_drew)); exact HO_5.out) (Kd.R_typed HO_6.out) (by decide) hg); have n3_ := Aside0.mk (hp_); have n4_ := Aside0.mk ((by rw [hw]; exact below_set (HB.out) GB38.out : Below w.heap.size w w42)); clear HO_3; clear HO_4; clear HO_5; clear HO_6; clear HB; have HO_3 := n0_; have HO_4 := n1_; have HO_5 := n2_; have HO_6 := n3_; have HB := n4_; clear n0_ n1_ n2_ n3_ n4_; clear hg hw hp_))
                                    go_roundg kj15
                                    case measure => have := HJ6.out; have := HK2.out; have := HJ15.out; omega
                                    case rel => exact ⟨(x3_2), (x5_2), (y234), (wrap64 (x7_2 + 1)), (by first | rfl | (simp; done) | (simp [*]; done)), H', ⟨by have := HJ6.out; have := HK2.out; have := HJ15.out; omega⟩, ⟨by (with_reducible repeat (first | apply Kd.R_alloc | apply Kd.R_drewN | apply Kd.R_drew)); exact Kd.R_mono HO_3.out (fun _ hk => hk.2)⟩, ⟨by (with_reducible repeat (first | apply Kd.R_alloc | apply Kd.R_drewN | apply Kd.R_drew)); exact HO_4.out⟩, ⟨by (with_reducible repeat (first | apply Kd.R_alloc | apply Kd.R_drewN | apply Kd.R_drew)); exact HO_5.out⟩, ⟨by (with_reducible repeat (first | apply Kd.R_alloc | apply Kd.R_drewN | apply Kd.R_drew)); exact HO_6.out⟩, ⟨by repeat (first | (with_reducible first | exact HB.out | apply below_alloc | apply pw_below_drewN | apply below_drew1) | exact HB.out)⟩⟩
                                  · rw [if_neg c37] at H
                                    exact absurd H (by simp)
                                · rw [if_neg c36] at H
                                  exact absurd H (by simp)
                              · rw [if_neg c34] at H
                                exact absurd H (by simp)
                            · rw [if_neg c33] at H
                              exact absurd H (by simp)
                          · rw [if_neg c32] at H
                            have c32b0 : ((rd x3_2 (ji29)) == 0) = false := beq_eq_false_iff_ne.mpr c32
                            have c32b1 : ((rd x3_2 (ji29)) != 0) = true := bne_iff_ne.mpr c32
                            exact af_absurd HRT.out H (by repeat (first | exact AF.none | exact AF.false | refine AF.ite ?_ ?_ | refine AF.bind (fun _ => ?_)))
                        · rw [if_neg c31] at H
                          exact absurd H (by simp)
                      · rw [if_neg c30] at H
                        exact absurd H (by simp)
                    · replace c28 := Bool.eq_false_iff.mpr c28
                      subst c28
                      have H1 : (if 0 ≤ x7_2 then (if x7_2 < (t220.length : Int) then (if x5_2.length < 17592186044416 then (if x7_2 < (x3_2.length : Int) then (if x6_2.length < 17592186044416 then (frisketlaw06_BreaksMarks.l0 kj15 l0 x3_2 t220 (x5_2 ++ [rd t220 x7_2]) (x6_2 ++ [rd x3_2 x7_2]) (wrap64 (x7_2 + 1))) else (none)) else (none)) else (none)) else (none)) else (none)) = some r := by rw [if_neg (show ¬ (false = true) by decide)] at H; exact H
                      clear H
                      have H := H1
                      clear H1
                      by_cases c43 : 0 ≤ x7_2
                      · rw [if_pos c43] at H
                        have c43b0 : decide (0 ≤ x7_2) = true := decide_eq_true c43
                        clear c43
                        by_cases c44 : x7_2 < (t220.length : Int)
                        · rw [if_pos c44] at H
                          have c44b0 : decide (x7_2 < (t220.length : Int)) = true := decide_eq_true c44
                          clear c44
                          by_cases c45 : x5_2.length < 17592186044416
                          · rw [if_pos c45] at H
                            have LMc45 := Aside0.mk c45
                            clear c45
                            obtain ⟨y236, hy236⟩ : ∃ y_ : List Int, y_ = (x5_2 ++ [rd t220 x7_2]) := ⟨_, rfl⟩
                            replace H : (if x7_2 < (x3_2.length : Int) then (if x6_2.length < 17592186044416 then (frisketlaw06_BreaksMarks.l0 kj15 l0 x3_2 t220 y236 (x6_2 ++ [rd x3_2 x7_2]) (wrap64 (x7_2 + 1))) else (none)) else (none)) = some r := by first | (rw [hy236]; with_reducible exact H) | (have H2_ := (Option.bind_some _ _).symm.trans H; rw [hy236]; with_reducible exact H2_) | (have H2_ := (Option.bind_some _ _).symm.trans H; with_reducible exact H2_) | with_reducible exact H | (rw [hy236]; exact H) | exact H
                            have Ny236 := Aside0.mk hy236
                            clear hy236
                            by_cases c46 : x7_2 < (x3_2.length : Int)
                            · rw [if_pos c46] at H
                              have c46b0 : decide (x7_2 < (x3_2.length : Int)) = true := decide_eq_true c46
                              clear c46
                              by_cases c47 : x6_2.length < 17592186044416
                              · rw [if_pos c47] at H
                                have LMc47 := Aside0.mk c47
                                clear c47
                                obtain ⟨y240, hy240⟩ : ∃ y_ : List Int, y_ = (x6_2 ++ [rd x3_2 x7_2]) := ⟨_, rfl⟩
                                replace H : (frisketlaw06_BreaksMarks.l0 kj15 l0 x3_2 t220 y236 y240 (wrap64 (x7_2 + 1))) = some r := by first | (rw [hy240]; with_reducible exact H) | (have H2_ := (Option.bind_some _ _).symm.trans H; rw [hy240]; with_reducible exact H2_) | (have H2_ := (Option.bind_some _ _).symm.trans H; with_reducible exact H2_) | with_reducible exact H | (rw [hy240]; exact H) | exact H
                                have Ny240 := Aside0.mk hy240
                                clear hy240
                                have H' := Aside0.mk H
                                clear H
                                obtain ⟨Ao48, co48, eo48⟩ := Kd.R_slice HO_4.out
                                subst eo48
                                have p235 : 0 ≤ (x7_2 : Int) := of_decide_eq_true (by first | (with_reducible assumption) | assumption)
                                have q235 : x7_2 < (t220.length : Int) := of_decide_eq_true (by first | (with_reducible assumption) | assumption)
                                obtain ⟨ad235, e235, hx235_0⟩ := Kd.at_int (Kd.R_reads' HO_4.out).2.2 x7_2 p235 q235
                                cases e235
                                replace p235 := eq_true p235
                                replace q235 := eq_true q235
                                go_wp2_with (first | ((with_reducible refine gate_builtin (b := .append) (xs := #[.tmp 84, .tmp 89]) rfl ?_); (try (refine gate_guard (by rfl) ?_; dsimp only)); at_builtin; refine Kd.R_append (Kd.int .i64) (w0 := w) w.heap.size rfl (.tmp 84) (.tmp 89) 22 31 (.int .i64 0) 8 rfl Try.underlying22 info31 rfl (by decide) (by omega) u5 x5_2 (rd t220 x7_2) [.int .i64 (rd t220 x7_2)] (fun k_ => some k_ ≠ (.slice (some ad235) t220.length co48 : Value).ownBlock) (fun _ => False) rfl rfl ?aP (fun _ hk => hk.elim) ?aF ?aO ?aB ?aS ?aL ?_; (case aP => exact rfl); (case aB => exact (by repeat (first | (with_reducible first | exact HB.out | apply below_alloc | apply pw_below_drewN | apply below_drew1) | exact HB.out))); (case aF => exact (fun k_ hk => Kd.fresh' (Kd.R_lt (by (with_reducible repeat (first | apply Kd.R_alloc | apply Kd.R_drewN | apply Kd.R_drew)); exact HO_4.out)) k_ hk)); (case aO => exact (by (with_reducible repeat (first | apply Kd.R_alloc | apply Kd.R_drewN | apply Kd.R_drew)); exact HO_5.out)); (case aS => exact (below_size (by repeat (first | (with_reducible first | exact HB.out | apply below_alloc | apply pw_below_drewN | apply below_drew1) | exact HB.out)))); (case aL => have := LMc45.out; omega); intro v237 w49 ho hb hg hat; rw [← Ny236.out] at ho; have n0_ := Aside0.mk (Kd.R_over' (by (with_reducible repeat (first | apply Kd.R_alloc | apply Kd.R_drewN | apply Kd.R_drew)); exact HO_3.out) (Kd.R_typed (by (with_reducible repeat (first | apply Kd.R_alloc | apply Kd.R_drewN | apply Kd.R_drew)); exact HO_5.out)) (by decide) hg); have n1_ := Aside0.mk (Kd.R_after (ok := (fun _ => True)) (by (with_reducible repeat (first | apply Kd.R_alloc | apply Kd.R_drewN | apply Kd.R_drew)); exact Kd.R_mono HO_4.out (fun _ hk => ⟨trivial, hk⟩)) hg hat); have n2_ := Aside0.mk (Kd.R_over' (by (with_reducible repeat (first | apply Kd.R_alloc | apply Kd.R_drewN | apply Kd.R_drew)); exact HO_6.out) (Kd.R_typed (by (with_reducible repeat (first | apply Kd.R_alloc | apply Kd.R_drewN | apply Kd.R_drew)); exact HO_5.out)) (by decide) hg); have n3_ := Aside0.mk (hb); have n4_ := Aside0.mk (ho); clear HO_3; clear HO_4; clear HO_6; clear HB; clear HO_5; have HO_3 := n0_; have HO_4 := n1_; have HO_6 := n2_; have HB := n3_; have HO238 := n4_; clear n0_ n1_ n2_ n3_ n4_; clear ho hb hg hat; obtain ⟨Ao50, co50, eo50⟩ := Kd.R_slice HO_3.out; subst eo50; have p239 : 0 ≤ (x7_2 : Int) := of_decide_eq_true (by first | (with_reducible assumption) | assumption); have q239 : x7_2 < (x3_2.length : Int) := of_decide_eq_true (by first | (with_reducible assumption) | assumption); obtain ⟨ad239, e239, hx239_0⟩ := Kd.at_int (Kd.R_reads' HO_3.out).2.2 x7_2 p239 q239; cases e239; replace p239 := eq_true p239; replace q239 := eq_true q239) | ((with_reducible refine gate_builtin (b := .append) (xs := #[.tmp 91, .tmp 96]) rfl ?_); (try (refine gate_guard (by rfl) ?_; dsimp only)); at_builtin; refine Kd.R_append (Kd.int .i64) (w0 := w) w.heap.size rfl (.tmp 91) (.tmp 96) 25 3 (.int .i64 0) 8 rfl Try.underlying25 info3 rfl (by decide) (by omega) u6 x6_2 (rd x3_2 x7_2) [.int .i64 (rd x3_2 x7_2)] (fun k_ => some k_ ≠ (.slice (some ad239) x3_2.length co50 : Value).ownBlock) (fun _ => False) rfl rfl ?aP (fun _ hk => hk.elim) ?aF ?aO ?aB ?aS ?aL ?_; (case aP => exact rfl); (case aB => exact (by repeat (first | (with_reducible first | exact HB.out | apply below_alloc | apply pw_below_drewN | apply below_drew1) | exact HB.out))); (case aF => exact (fun k_ hk => Kd.fresh' (Kd.R_lt (by (with_reducible repeat (first | apply Kd.R_alloc | apply Kd.R_drewN | apply Kd.R_drew)); exact HO_3.out)) k_ hk)); (case aO => exact (by (with_reducible repeat (first | apply Kd.R_alloc | apply Kd.R_drewN | apply Kd.R_drew)); exact HO_6.out)); (case aS => exact (below_size (by repeat (first | (with_reducible first | exact HB.out | apply below_alloc | apply pw_below_drewN | apply below_drew1) | exact HB.out)))); (case aL => have := LMc47.out; omega); intro v241 w51 ho hb hg hat; rw [← Ny240.out] at ho; have n0_ := Aside0.mk (Kd.R_after (ok := (fun _ => True)) (by (with_reducible repeat (first | apply Kd.R_alloc | apply Kd.R_drewN | apply Kd.R_drew)); exact Kd.R_mono HO_3.out (fun _ hk => ⟨trivial, hk⟩)) hg hat); have n1_ := Aside0.mk (Kd.R_over' (by (with_reducible repeat (first | apply Kd.R_alloc | apply Kd.R_drewN | apply Kd.R_drew)); exact HO_4.out) (Kd.R_typed (by (with_reducible repeat (first | apply Kd.R_alloc | apply Kd.R_drewN | apply Kd.R_drew)); exact HO_6.out)) (by decide) hg); have n2_ := Aside0.mk (Kd.R_over' (by (with_reducible repeat (first | apply Kd.R_alloc | apply Kd.R_drewN | apply Kd.R_drew)); exact HO238.out) (Kd.R_typed (by (with_reducible repeat (first | apply Kd.R_alloc | apply Kd.R_drewN | apply Kd.R_drew)); exact HO_6.out)) (by decide) hg); have n3_ := Aside0.mk (hb); have n4_ := Aside0.mk (ho); clear HO_3; clear HO_4; clear HO238; clear HB; clear HO_6; have HO_3 := n0_; have HO_4 := n1_; have HO238 := n2_; have HB := n3_; have HO242 := n4_; clear n0_ n1_ n2_ n3_ n4_; clear ho hb hg hat))
                                go_roundg kj15
                                case measure => have := HJ6.out; have := HK2.out; have := HJ15.out; omega
                                case rel => exact ⟨(x3_2), (y236), (y240), (wrap64 (x7_2 + 1)), (by first | rfl | (simp; done) | (simp [*]; done)), H', ⟨by have := HJ6.out; have := HK2.out; have := HJ15.out; omega⟩, ⟨by (with_reducible repeat (first | apply Kd.R_alloc | apply Kd.R_drewN | apply Kd.R_drew)); exact Kd.R_mono HO_3.out (fun _ hk => hk.2)⟩, ⟨by (with_reducible repeat (first | apply Kd.R_alloc | apply Kd.R_drewN | apply Kd.R_drew)); exact Kd.R_mono HO_4.out (fun _ hk => hk.2)⟩, ⟨by (with_reducible repeat (first | apply Kd.R_alloc | apply Kd.R_drewN | apply Kd.R_drew)); exact HO238.out⟩, ⟨by (with_reducible repeat (first | apply Kd.R_alloc | apply Kd.R_drewN | apply Kd.R_drew)); exact HO242.out⟩, ⟨by repeat (first | (with_reducible first | exact HB.out | apply below_alloc | apply pw_below_drewN | apply below_drew1) | exact HB.out)⟩⟩
                              · rw [if_neg c47] at H
                                exact absurd H (by simp)
                            · rw [if_neg c46] at H
                              exact absurd H (by simp)
                          · rw [if_neg c45] at H
                            exact absurd H (by simp)
                        · rw [if_neg c44] at H
                          exact absurd H (by simp)
                      · rw [if_neg c43] at H
                        exact absurd H (by simp)
              · rw [if_neg c15] at H
                have c15b0 : decide (x7_2 < (l0.length : Int)) = false := decide_eq_false c15
                clear c15
                replace H := Option.bind_eq_some_iff.mp H
                obtain ⟨t223, A520, H⟩ := H
                replace H : (if t223 = true then ((breaks_All.f x5_2).bind fun t224 => ((frisketref01_Ints.f k2 t224 x6_2).bind fun t227 => (some t227))) else (some false)) = some r := H
                have A52 := Aside0.mk A520
                clear A520
                by_cases c53 : t223 = true
                · subst c53
                  have H1 : ((breaks_All.f x5_2).bind fun t224 => ((frisketref01_Ints.f k2 t224 x6_2).bind fun t227 => (some t227))) = some r := by rw [if_pos rfl] at H; exact H
                  clear H
                  have H := H1
                  clear H1
                  replace H := Option.bind_eq_some_iff.mp H
                  obtain ⟨t224, A540, H⟩ := H
                  replace H : ((frisketref01_Ints.f k2 t224 x6_2).bind fun t227 => (some t227)) = some r := H
                  have A54 := Aside0.mk A540
                  clear A540
                  replace H := Option.bind_eq_some_iff.mp H
                  obtain ⟨t227, A550, H⟩ := H
                  replace H : (some t227) = some r := H
                  have A55 := Aside0.mk A550
                  clear A550
                  obtain rfl := Option.some.inj H
                  go_wp2_with (first | ((with_reducible refine gate_callee (f := 7) rfl ?_); refine goesL_ (some 98) rfl rfl Try.func7 (by kernel_rfl) rfl #[] rfl (by (try simp only [List.map_toArray, List.map_cons, List.map_nil]); first | done | rfl | (simp only [List.length_drop, List.length_take]; rfl)) ?_; (with_reducible refine (frisketlaw06_alive.calls k2  true _ A52.out).mono ?_); rintro e w56 ⟨rfl, hb⟩; refine ⟨_, rfl, ?_⟩; have n0_ := Aside0.mk (Kd.R_below (by (with_reducible repeat (first | apply Kd.R_alloc | apply Kd.R_drewN | apply Kd.R_drew)); exact HO_3.out) hb); have n1_ := Aside0.mk (Kd.R_below (by (with_reducible repeat (first | apply Kd.R_alloc | apply Kd.R_drewN | apply Kd.R_drew)); exact HO_4.out) hb); have n2_ := Aside0.mk (Kd.R_below (by (with_reducible repeat (first | apply Kd.R_alloc | apply Kd.R_drewN | apply Kd.R_drew)); exact HO_5.out) hb); have n3_ := Aside0.mk (Kd.R_below (by (with_reducible repeat (first | apply Kd.R_alloc | apply Kd.R_drewN | apply Kd.R_drew)); exact HO_6.out) hb); have n4_ := Aside0.mk (below_step (by repeat (first | (with_reducible first | exact HB.out | apply below_alloc | apply pw_below_drewN | apply below_drew1) | exact HB.out)) hb); clear HO_3; clear HO_4; clear HO_5; clear HO_6; clear HB; have HO_3 := n0_; have HO_4 := n1_; have HO_5 := n2_; have HO_6 := n3_; have HB := n4_; clear n0_ n1_ n2_ n3_ n4_; (try clear hb); (try clear hb2); (try clear hk); (try clear hi); obtain ⟨Ao57, co57, eo57⟩ := Kd.R_slice HO_5.out; subst eo57) | (go_at_call 9; (with_reducible refine (breaks_All.calls _ _ x5_2 t224 _ ?side1 ?side2 A54.out).mono ?_); (case side1 => repeat (first | exact (Kd.R_reads' HO_5.out).2.2 | (with_reducible refine Kd.C_alloc ?_ _) | (with_reducible refine Kd.C_drewN ?_ _) | (with_reducible refine Kd.C_drew ?_))); (case side2 => exact (Kd.R_reads' HO_5.out).2.1); rintro e w58 ⟨v225, rfl, ho0, hb⟩; have n0_ := Aside0.mk (Kd.R_elder' (by (with_reducible repeat (first | apply Kd.R_alloc | apply Kd.R_drewN | apply Kd.R_drew)); exact HO_3.out) (Kd.R_base ho0) hb); have n1_ := Aside0.mk (Kd.R_below (by (with_reducible repeat (first | apply Kd.R_alloc | apply Kd.R_drewN | apply Kd.R_drew)); exact HO_4.out) hb); have n2_ := Aside0.mk (Kd.R_below (by (with_reducible repeat (first | apply Kd.R_alloc | apply Kd.R_drewN | apply Kd.R_drew)); exact HO_5.out) hb); have n3_ := Aside0.mk (Kd.R_elder' (by (with_reducible repeat (first | apply Kd.R_alloc | apply Kd.R_drewN | apply Kd.R_drew)); exact HO_6.out) (Kd.R_base ho0) hb); have n4_ := Aside0.mk (Kd.R_lower (Kd.R_new' (Kd.R_new' ho0 (Kd.R_lt (by (with_reducible repeat (first | apply Kd.R_alloc | apply Kd.R_drewN | apply Kd.R_drew)); exact HO_3.out))) (Kd.R_lt (by (with_reducible repeat (first | apply Kd.R_alloc | apply Kd.R_drewN | apply Kd.R_drew)); exact HO_6.out))) (below_size (by repeat (first | (with_reducible first | exact HB.out | apply below_alloc | apply pw_below_drewN | apply below_drew1) | exact HB.out)))); have n5_ := Aside0.mk (below_step (by repeat (first | (with_reducible first | exact HB.out | apply below_alloc | apply pw_below_drewN | apply below_drew1) | exact HB.out)) hb); clear HO_3; clear HO_4; clear HO_5; clear HO_6; clear HB; have HO_3 := n0_; have HO_4 := n1_; have HO_5 := n2_; have HO_6 := n3_; have HO226 := n4_; have HB := n5_; clear n0_ n1_ n2_ n3_ n4_ n5_; (try clear hb); (try clear hb2); (try clear hk); (try clear hi); (try clear ho0); obtain ⟨Ao59, co59, eo59⟩ := Kd.R_slice HO226.out; subst eo59; obtain ⟨Ao60, co60, eo60⟩ := Kd.R_slice HO_6.out; subst eo60) | (go_at_call 8; (with_reducible refine (frisketref01_Ints.calls k2 _ _ t224 _ _ x6_2 t227 _ ?side1 ?side2 ?side3 ?side4 A55.out).mono ?_); (case side1 => repeat (first | exact (Kd.R_reads' HO226.out).2.2 | (with_reducible refine Kd.C_alloc ?_ _) | (with_reducible refine Kd.C_drewN ?_ _) | (with_reducible refine Kd.C_drew ?_))); (case side2 => exact (Kd.R_reads' HO226.out).2.1); (case side3 => repeat (first | exact (Kd.R_reads' HO_6.out).2.2 | (with_reducible refine Kd.C_alloc ?_ _) | (with_reducible refine Kd.C_drewN ?_ _) | (with_reducible refine Kd.C_drew ?_))); (case side4 => exact (Kd.R_reads' HO_6.out).2.1); rintro e w' ⟨rfl, ⟨nd, rfl⟩⟩))
                  go_ret
                  exact ⟨by first | rfl | (simp [errW_none, errW_some] <;> rfl) | (simp [*, errW_none, errW_some] <;> rfl), by repeat (first | (with_reducible first | exact HB.out | apply below_alloc | apply pw_below_drewN | apply below_drew1) | exact HB.out)⟩
                · replace c53 := Bool.eq_false_iff.mpr c53
                  subst c53
                  have H1 : (some false) = some r := by rw [if_neg (show ¬ (false = true) by decide)] at H; exact H
                  clear H
                  have H := H1
                  clear H1
                  exact af_absurd HRT.out H (by repeat (first | exact AF.none | exact AF.false | refine AF.ite ?_ ?_ | refine AF.bind (fun _ => ?_)))

end Go.Proofs.Ytbcflgiapiclgaa.P
