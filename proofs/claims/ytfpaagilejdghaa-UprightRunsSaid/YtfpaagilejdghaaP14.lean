/- Written by wip/tools/gprint.py of this repo over the translation: Lean functions that answer as the Go functions named below do, and the proof of it; the conditions stand in each theorem. -/
import Derived.Test.YtfpaagilejdghaaP0
import Derived.Test.YtfpaagilejdghaaP1
import Derived.Test.YtfpaagilejdghaaP6
import Derived.Test.YtfpaagilejdghaaP7
import Derived.Test.YtfpaagilejdghaaP13
namespace Go.Proofs.Ytfpaagilejdghaa.P
open Go.RowKit Go.Proofs.YtfpaagilejdghaaW.PrintWords Go.Proofs.YtfpaagilejdghaaW.PrintLast Go.Proofs.YtfpaagilejdghaaW.PrintMore
attribute [local go_sem] max2_int min2_int max_two min_two max_three min_three max_four min_four   -- for this text's walks alone
set_option linter.unusedVariables false
set_option linter.unusedSimpArgs false

attribute [local go_sem high] eqA37
/-! ### frisketlaw15_UprightRuns: function 4 -/
def frisketlaw15_UprightRuns.l0 : Nat → List Int → List (S37) → List (S37) → Int → Int → Option (Bool)
  | 0, _, _, _, _, _ => none
  | k + 1, x0, x3, x4, x5, x6 => if x6 < (x3.length : Int) then (if 0 ≤ x6 then (if x6 < (x4.length : Int) then (if (!(((rd_T37 x3 x6).f0) == ((rd_T37 x4 x6).f0)) || (!(((rd_T37 x3 x6).f1) == ((rd_T37 x4 x6).f1)) || (!(((rd_T37 x3 x6).f2) == ((rd_T37 x4 x6).f2))))) = true then (some false) else (if ((rd_T37 x3 x6).f0) = x5 then (if ((rd_T37 x3 x6).f1) ≤ x5 then (some false) else (if x6 > 0 then (if 0 ≤ (wrap64 (x6 - 1)) then (if (wrap64 (x6 - 1)) < (x3.length : Int) then (if ((rd_T37 x3 x6).f2) = ((rd_T37 x3 (wrap64 (x6 - 1))).f2) then (some false) else (frisketlaw15_UprightRuns.l0 k x0 x3 x4 ((rd_T37 x3 x6).f1) (wrap64 (x6 + 1)))) else (none)) else (none)) else (frisketlaw15_UprightRuns.l0 k x0 x3 x4 ((rd_T37 x3 x6).f1) (wrap64 (x6 + 1))))) else (some false))) else (none)) else (none)) else ((frisketlaw15_alive.f k).bind fun t178 => (if t178 = true then (some (x5 == (x0.length : Int))) else (some false)))
def frisketlaw15_UprightRuns.f (k : Nat) (l0 : List Int) : Option (Bool) := if (l0.length : Int) > 200 then ((frisketlaw15_alive.f k).bind fun t163 => (some t163)) else ((upright_Runs.f k l0).bind fun t164 => ((frisketref15_Runs.f k l0).bind fun t167 => (if (t164.length : Int) = (t167.length : Int) then (frisketlaw15_UprightRuns.l0 k l0 t164 t167 0 0) else (some false))))
theorem frisketlaw15_UprightRuns.mono_l : ∀ k, (∀ y0 y1 y2 y3 y4, LeO (frisketlaw15_UprightRuns.l0 k y0 y1 y2 y3 y4) (frisketlaw15_UprightRuns.l0 (k + 1) y0 y1 y2 y3 y4))
  | 0 => fun _ _ _ _ _ r h => by simp [frisketlaw15_UprightRuns.l0] at h
  | k + 1 => by
    have ih0 := frisketlaw15_UprightRuns.mono_l k
    · intro y0 y1 y2 y3 y4
      unfold frisketlaw15_UprightRuns.l0
      repeat' first
      | (with_reducible exact ih0 _ _ _ _ _)
      | (with_reducible exact frisketlaw15_alive.mono _)
      | (with_reducible exact frisketref15_Runs.mono _ _)
      | (with_reducible exact upright_Runs.mono _ _)
      | (with_reducible exact LeO.refl _)
      | (with_reducible exact LeO.none _)
      | (with_reducible refine LeO.ite ?_ ?_)
      | (with_reducible refine LeO.bind ?_ (fun _ => ?_))
      | exact ih0 _ _ _ _ _
      | exact frisketlaw15_alive.mono _
      | exact frisketref15_Runs.mono _ _
      | exact upright_Runs.mono _ _
      | exact LeO.none _
      | refine LeO.ite ?_ ?_
      | refine LeO.bind ?_ (fun _ => ?_)
theorem frisketlaw15_UprightRuns.mono : ∀ a0 k, LeO (frisketlaw15_UprightRuns.f k a0) (frisketlaw15_UprightRuns.f (k + 1) a0) := by
  intro a0 k
  have ih0 := frisketlaw15_UprightRuns.mono_l k
  unfold frisketlaw15_UprightRuns.f
  repeat' first
      | (with_reducible exact ih0 _ _ _ _ _)
      | (with_reducible exact frisketlaw15_alive.mono _)
      | (with_reducible exact frisketref15_Runs.mono _ _)
      | (with_reducible exact upright_Runs.mono _ _)
      | (with_reducible exact LeO.refl _)
      | (with_reducible exact LeO.none _)
      | (with_reducible refine LeO.ite ?_ ?_)
      | (with_reducible refine LeO.bind ?_ (fun _ => ?_))
      | exact ih0 _ _ _ _ _
      | exact frisketlaw15_alive.mono _
      | exact frisketref15_Runs.mono _ _
      | exact upright_Runs.mono _ _
      | exact LeO.none _
      | refine LeO.ite ?_ ?_
      | refine LeO.bind ?_ (fun _ => ?_)
set_option maxHeartbeats 8000000 in
set_option maxRecDepth 100000 in
theorem frisketlaw15_UprightRuns.calls (k : Nat) (A0 : Option Addr) (c0 : Nat) (l0 : List Int) (r : Bool) (w : World) (hr0 : Kd.C (Kd.int .i64) w A0 l0.length l0) (hc0 : l0.length ≤ c0) (hrt : r = true) (h : frisketlaw15_UprightRuns.f k l0 = some r) :
    Calls Try.prog 4 #[.slice A0 l0.length c0] w fun e w' => e = .returned (.bool r) ∧ Below w.heap.size w w' := by
  have hu37 := Try.underlying37
  have HR0 := Aside0.mk hr0
  have HC0 := Aside0.mk hc0
  clear hr0 hc0
  have HB := Aside0.mk (Below.refl w.heap.size w)
  have HRT := Aside0.mk hrt
  clear hrt
  have H : (if (l0.length : Int) > 200 then ((frisketlaw15_alive.f k).bind fun t163 => (some t163)) else ((upright_Runs.f k l0).bind fun t164 => ((frisketref15_Runs.f k l0).bind fun t167 => (if (t164.length : Int) = (t167.length : Int) then (frisketlaw15_UprightRuns.l0 k l0 t164 t167 0 0) else (some false))))) = some r := h
  clear h
  by_cases c2 : (l0.length : Int) > 200
  · rw [if_pos c2] at H
    have c2b0 : decide (200 < (l0.length : Int)) = true := decide_eq_true c2
    have c2b1 : decide (200 < l0.length) = true := decide_eq_true (by omega)
    clear c2
    replace H := Option.bind_eq_some_iff.mp H
    obtain ⟨t163, A30, H⟩ := H
    replace H : (some t163) = some r := H
    have A3 := Aside0.mk A30
    clear A30
    obtain rfl := Option.some.inj H
    go_enter Try.func4, Try.ntmps4
    go_wp2_with (first | (go_at_call 7; (with_reducible refine (frisketlaw15_alive.calls k  t163 _ A3.out).mono ?_); rintro e w4 ⟨rfl, hb⟩; have n0_ := Aside0.mk (below_step (by repeat (first | (with_reducible first | exact HB.out | apply below_alloc | apply pw_below_drewN | apply below_drew1) | exact HB.out)) hb); clear HB; have HB := n0_; clear n0_; (try clear hb); (try clear hb2); (try clear hk); (try clear hi)))
    repeat (go_quiet (first | (go_at_call 7; (with_reducible refine (frisketlaw15_alive.calls k  t163 _ A3.out).mono ?_); rintro e w4 ⟨rfl, hb⟩; have n0_ := Aside0.mk (below_step (by repeat (first | (with_reducible first | exact HB.out | apply below_alloc | apply pw_below_drewN | apply below_drew1) | exact HB.out)) hb); clear HB; have HB := n0_; clear n0_; (try clear hb); (try clear hb2); (try clear hk); (try clear hi))); try go_wp2_with (first | (go_at_call 7; (with_reducible refine (frisketlaw15_alive.calls k  t163 _ A3.out).mono ?_); rintro e w4 ⟨rfl, hb⟩; have n0_ := Aside0.mk (below_step (by repeat (first | (with_reducible first | exact HB.out | apply below_alloc | apply pw_below_drewN | apply below_drew1) | exact HB.out)) hb); clear HB; have HB := n0_; clear n0_; (try clear hb); (try clear hb2); (try clear hk); (try clear hi))))
    go_ret
    exact ⟨by first | rfl | (simp [errW_none, errW_some] <;> rfl) | (simp [*, errW_none, errW_some] <;> rfl), by repeat (first | (with_reducible first | exact HB.out | apply below_alloc | apply pw_below_drewN | apply below_drew1) | exact HB.out)⟩
  · rw [if_neg c2] at H
    have c2b0 : decide (200 < (l0.length : Int)) = false := decide_eq_false c2
    have c2b1 : decide (200 < l0.length) = false := decide_eq_false (by omega)
    clear c2
    replace H := Option.bind_eq_some_iff.mp H
    obtain ⟨t164, A50, H⟩ := H
    replace H : ((frisketref15_Runs.f k l0).bind fun t167 => (if (t164.length : Int) = (t167.length : Int) then (frisketlaw15_UprightRuns.l0 k l0 t164 t167 0 0) else (some false))) = some r := H
    have A5 := Aside0.mk A50
    clear A50
    replace H := Option.bind_eq_some_iff.mp H
    obtain ⟨t167, A60, H⟩ := H
    replace H : (if (t164.length : Int) = (t167.length : Int) then (frisketlaw15_UprightRuns.l0 k l0 t164 t167 0 0) else (some false)) = some r := H
    have A6 := Aside0.mk A60
    clear A60
    by_cases c7 : (t164.length : Int) = (t167.length : Int)
    · rw [if_pos c7] at H
      have c7b0 : ((t164.length : Int) == (t167.length : Int)) = true := beq_iff_eq.mpr c7
      have c7b1 : ((t164.length : Int) != (t167.length : Int)) = false := bne_eq_false_iff_eq.mpr c7
      have c7b2 : (t164.length == t167.length) = true := by first | simpa using c7 | (simp at c7 ⊢; omega)
      clear c7
      have H' := Aside0.mk H
      clear H
      go_enter Try.func4, Try.ntmps4
      go_wp2_with (first | (go_at_call 15; (with_reducible refine (upright_Runs.calls k _ _ l0 t164 _ ?side1 ?side2 A5.out).mono ?_); (case side1 => repeat (first | exact HR0.out | (with_reducible refine Kd.C_alloc ?_ _) | (with_reducible refine Kd.C_drewN ?_ _) | (with_reducible refine Kd.C_drew ?_))); (case side2 => exact HC0.out); rintro e w8 ⟨v165, rfl, ho0, hb⟩; have n0_ := Aside0.mk (Kd.R_lower ho0 (below_size (by repeat (first | (with_reducible first | exact HB.out | apply below_alloc | apply pw_below_drewN | apply below_drew1) | exact HB.out)))); have n1_ := Aside0.mk (below_step (by repeat (first | (with_reducible first | exact HB.out | apply below_alloc | apply pw_below_drewN | apply below_drew1) | exact HB.out)) hb); clear HB; have HO166 := n0_; have HB := n1_; clear n0_ n1_; (try clear hb); (try clear hb2); (try clear hk); (try clear hi); (try clear ho0)) | (go_at_call 16; (with_reducible refine (frisketref15_Runs.calls k _ _ l0 t167 _ ?side1 ?side2 A6.out).mono ?_); (case side1 => repeat (first | exact (Kd.C_below HR0.out HB.out) | (with_reducible refine Kd.C_alloc ?_ _) | (with_reducible refine Kd.C_drewN ?_ _) | (with_reducible refine Kd.C_drew ?_))); (case side2 => exact HC0.out); rintro e w9 ⟨v168, rfl, ho0, hb⟩; have n0_ := Aside0.mk (Kd.R_elder' (by (with_reducible repeat (first | apply Kd.R_alloc | apply Kd.R_drewN | apply Kd.R_drew)); exact HO166.out) (Kd.R_base ho0) hb); have n1_ := Aside0.mk (Kd.R_lower (Kd.R_new' ho0 (Kd.R_lt (by (with_reducible repeat (first | apply Kd.R_alloc | apply Kd.R_drewN | apply Kd.R_drew)); exact HO166.out))) (below_size (by repeat (first | (with_reducible first | exact HB.out | apply below_alloc | apply pw_below_drewN | apply below_drew1) | exact HB.out)))); have n2_ := Aside0.mk (below_step (by repeat (first | (with_reducible first | exact HB.out | apply below_alloc | apply pw_below_drewN | apply below_drew1) | exact HB.out)) hb); clear HO166; clear HB; have HO166 := n0_; have HO169 := n1_; have HB := n2_; clear n0_ n1_ n2_; (try clear hb); (try clear hb2); (try clear hk); (try clear hi); (try clear ho0); obtain ⟨Ao10, co10, eo10⟩ := Kd.R_slice HO166.out; subst eo10; obtain ⟨Ao11, co11, eo11⟩ := Kd.R_slice HO169.out; subst eo11))
      repeat (go_quiet (first | (go_at_call 15; (with_reducible refine (upright_Runs.calls k _ _ l0 t164 _ ?side1 ?side2 A5.out).mono ?_); (case side1 => repeat (first | exact HR0.out | (with_reducible refine Kd.C_alloc ?_ _) | (with_reducible refine Kd.C_drewN ?_ _) | (with_reducible refine Kd.C_drew ?_))); (case side2 => exact HC0.out); rintro e w8 ⟨v165, rfl, ho0, hb⟩; have n0_ := Aside0.mk (Kd.R_lower ho0 (below_size (by repeat (first | (with_reducible first | exact HB.out | apply below_alloc | apply pw_below_drewN | apply below_drew1) | exact HB.out)))); have n1_ := Aside0.mk (below_step (by repeat (first | (with_reducible first | exact HB.out | apply below_alloc | apply pw_below_drewN | apply below_drew1) | exact HB.out)) hb); clear HB; have HO166 := n0_; have HB := n1_; clear n0_ n1_; (try clear hb); (try clear hb2); (try clear hk); (try clear hi); (try clear ho0)) | (go_at_call 16; (with_reducible refine (frisketref15_Runs.calls k _ _ l0 t167 _ ?side1 ?side2 A6.out).mono ?_); (case side1 => repeat (first | exact (Kd.C_below HR0.out HB.out) | (with_reducible refine Kd.C_alloc ?_ _) | (with_reducible refine Kd.C_drewN ?_ _) | (with_reducible refine Kd.C_drew ?_))); (case side2 => exact HC0.out); rintro e w9 ⟨v168, rfl, ho0, hb⟩; have n0_ := Aside0.mk (Kd.R_elder' (by (with_reducible repeat (first | apply Kd.R_alloc | apply Kd.R_drewN | apply Kd.R_drew)); exact HO166.out) (Kd.R_base ho0) hb); have n1_ := Aside0.mk (Kd.R_lower (Kd.R_new' ho0 (Kd.R_lt (by (with_reducible repeat (first | apply Kd.R_alloc | apply Kd.R_drewN | apply Kd.R_drew)); exact HO166.out))) (below_size (by repeat (first | (with_reducible first | exact HB.out | apply below_alloc | apply pw_below_drewN | apply below_drew1) | exact HB.out)))); have n2_ := Aside0.mk (below_step (by repeat (first | (with_reducible first | exact HB.out | apply below_alloc | apply pw_below_drewN | apply below_drew1) | exact HB.out)) hb); clear HO166; clear HB; have HO166 := n0_; have HO169 := n1_; have HB := n2_; clear n0_ n1_ n2_; (try clear hb); (try clear hb2); (try clear hk); (try clear hi); (try clear ho0); obtain ⟨Ao10, co10, eo10⟩ := Kd.R_slice HO166.out; subst eo10; obtain ⟨Ao11, co11, eo11⟩ := Kd.R_slice HO169.out; subst eo11)); try go_wp2_with (first | (go_at_call 15; (with_reducible refine (upright_Runs.calls k _ _ l0 t164 _ ?side1 ?side2 A5.out).mono ?_); (case side1 => repeat (first | exact HR0.out | (with_reducible refine Kd.C_alloc ?_ _) | (with_reducible refine Kd.C_drewN ?_ _) | (with_reducible refine Kd.C_drew ?_))); (case side2 => exact HC0.out); rintro e w8 ⟨v165, rfl, ho0, hb⟩; have n0_ := Aside0.mk (Kd.R_lower ho0 (below_size (by repeat (first | (with_reducible first | exact HB.out | apply below_alloc | apply pw_below_drewN | apply below_drew1) | exact HB.out)))); have n1_ := Aside0.mk (below_step (by repeat (first | (with_reducible first | exact HB.out | apply below_alloc | apply pw_below_drewN | apply below_drew1) | exact HB.out)) hb); clear HB; have HO166 := n0_; have HB := n1_; clear n0_ n1_; (try clear hb); (try clear hb2); (try clear hk); (try clear hi); (try clear ho0)) | (go_at_call 16; (with_reducible refine (frisketref15_Runs.calls k _ _ l0 t167 _ ?side1 ?side2 A6.out).mono ?_); (case side1 => repeat (first | exact (Kd.C_below HR0.out HB.out) | (with_reducible refine Kd.C_alloc ?_ _) | (with_reducible refine Kd.C_drewN ?_ _) | (with_reducible refine Kd.C_drew ?_))); (case side2 => exact HC0.out); rintro e w9 ⟨v168, rfl, ho0, hb⟩; have n0_ := Aside0.mk (Kd.R_elder' (by (with_reducible repeat (first | apply Kd.R_alloc | apply Kd.R_drewN | apply Kd.R_drew)); exact HO166.out) (Kd.R_base ho0) hb); have n1_ := Aside0.mk (Kd.R_lower (Kd.R_new' ho0 (Kd.R_lt (by (with_reducible repeat (first | apply Kd.R_alloc | apply Kd.R_drewN | apply Kd.R_drew)); exact HO166.out))) (below_size (by repeat (first | (with_reducible first | exact HB.out | apply below_alloc | apply pw_below_drewN | apply below_drew1) | exact HB.out)))); have n2_ := Aside0.mk (below_step (by repeat (first | (with_reducible first | exact HB.out | apply below_alloc | apply pw_below_drewN | apply below_drew1) | exact HB.out)) hb); clear HO166; clear HB; have HO166 := n0_; have HO169 := n1_; have HB := n2_; clear n0_ n1_ n2_; (try clear hb); (try clear hb2); (try clear hk); (try clear hi); (try clear ho0); obtain ⟨Ao10, co10, eo10⟩ := Kd.R_slice HO166.out; subst eo10; obtain ⟨Ao11, co11, eo11⟩ := Kd.R_slice HO169.out; subst eo11)))
      go_loopg [5, 6] k (fun kq v5 v6 w' => ∃ (x5_1 : Int) (x6_1 : Int), v5 = .int .i64 x5_1 ∧ v6 = .int .i64 x6_1 ∧ Aside0 (frisketlaw15_UprightRuns.l0 kq l0 t164 t167 x5_1 x6_1 = some r) ∧ Aside0 (kq ≤ k) ∧ Aside0 (Kd.R k37 37 w' w.heap.size (fun k_ => some k_ ≠ ((.slice Ao11 t167.length co11) : Value).ownBlock) (.slice Ao10 t164.length co10) t164) ∧ Aside0 (Kd.R k37 37 w' w.heap.size (fun k_ => some k_ ≠ ((.slice Ao10 t164.length co10) : Value).ownBlock) (.slice Ao11 t167.length co11) t167) ∧ Aside0 (Below w.heap.size w w'))
      case atStart => exact ⟨(0), (0), (by first | rfl | (simp; done) | (simp [*]; done)), (by first | rfl | (simp; done) | (simp [*]; done)), H', ⟨Nat.le_refl _⟩, ⟨by (with_reducible repeat (first | apply Kd.R_alloc | apply Kd.R_drewN | apply Kd.R_drew)); exact Kd.R_mono HO166.out (fun _ hk => hk.2)⟩, ⟨by (with_reducible repeat (first | apply Kd.R_alloc | apply Kd.R_drewN | apply Kd.R_drew)); exact Kd.R_mono HO169.out (fun _ hk => hk.2)⟩, ⟨by repeat (first | (with_reducible first | exact HB.out | apply below_alloc | apply pw_below_drewN | apply below_drew1) | exact HB.out)⟩⟩
      case round =>
        clear H'
        try clear c2
        try clear c2b0
        try clear c2b1
        try clear p2
        try clear c4
        try clear c7
        try clear c7b0
        try clear c7b1
        try clear c7b2
        obtain ⟨x5_1, x6_1, rfl, rfl, HA, HK1, HO_3, HO_4, HB⟩ := hrel
        cases gk with
        | zero => exact absurd HA.out (by simp [frisketlaw15_UprightRuns.l0])
        | succ k1 =>
          have H := HA.out
          clear HA
          simp only [frisketlaw15_UprightRuns.l0] at H
          by_cases c12 : x6_1 < (t164.length : Int)
          · rw [if_pos c12] at H
            have c12b0 : decide (x6_1 < (t164.length : Int)) = true := decide_eq_true c12
            clear c12
            by_cases c13 : 0 ≤ x6_1
            · rw [if_pos c13] at H
              have c13b0 : decide (0 ≤ x6_1) = true := decide_eq_true c13
              clear c13
              by_cases c14 : x6_1 < (t167.length : Int)
              · rw [if_pos c14] at H
                have c14b0 : decide (x6_1 < (t167.length : Int)) = true := decide_eq_true c14
                clear c14
                by_cases c15 : (!(((rd_T37 t164 x6_1).f0) == ((rd_T37 t167 x6_1).f0)) || (!(((rd_T37 t164 x6_1).f1) == ((rd_T37 t167 x6_1).f1)) || (!(((rd_T37 t164 x6_1).f2) == ((rd_T37 t167 x6_1).f2))))) = true
                · rw [if_pos c15] at H
                  have c15b0 : (!(((rd_T37 t164 x6_1).f0) == ((rd_T37 t167 x6_1).f0)) || (!(((rd_T37 t164 x6_1).f1) == ((rd_T37 t167 x6_1).f1)) || (!(((rd_T37 t164 x6_1).f2) == ((rd_T37 t167 x6_1).f2))))) = true := c15
                  clear c15
                  exact af_absurd HRT.out H (by repeat (first | exact AF.none | exact AF.false | refine AF.ite ?_ ?_ | refine AF.bind (fun _ => ?_)))
                · rw [if_neg c15] at H
                  have c15b0 : (!(((rd_T37 t164 x6_1).f0) == ((rd_T37 t167 x6_1).f0)) || (!(((rd_T37 t164 x6_1).f1) == ((rd_T37 t167 x6_1).f1)) || (!(((rd_T37 t164 x6_1).f2) == ((rd_T37 t167 x6_1).f2))))) = false := by simpa using c15
                  clear c15
                  by_cases c16 : ((rd_T37 t164 x6_1).f0) = x5_1
                  · rw [if_pos c16] at H
                    have c16b0 : (((rd_T37 t164 x6_1).f0) == x5_1) = true := beq_iff_eq.mpr c16
                    have c16b1 : (((rd_T37 t164 x6_1).f0) != x5_1) = false := bne_eq_false_iff_eq.mpr c16
                    clear c16
                    by_cases c17 : ((rd_T37 t164 x6_1).f1) ≤ x5_1
                    · rw [if_pos c17] at H
                      have c17b0 : decide (((rd_T37 t164 x6_1).f1) ≤ x5_1) = true := decide_eq_true c17
                      clear c17
                      exact af_absurd HRT.out H (by repeat (first | exact AF.none | exact AF.false | refine AF.ite ?_ ?_ | refine AF.bind (fun _ => ?_)))
                    · rw [if_neg c17] at H
                      have c17b0 : decide (((rd_T37 t164 x6_1).f1) ≤ x5_1) = false := decide_eq_false c17
                      clear c17
                      by_cases c18 : x6_1 > 0
                      · rw [if_pos c18] at H
                        have c18b0 : decide (0 < x6_1) = true := decide_eq_true c18
                        clear c18
                        obtain ⟨ji19, hji19⟩ : ∃ j_ : Int, (wrap64 (x6_1 - 1)) = j_ := ⟨_, rfl⟩
                        replace H : (if 0 ≤ (ji19) then (if (ji19) < (t164.length : Int) then (if ((rd_T37 t164 x6_1).f2) = ((rd_T37 t164 (ji19)).f2) then (some false) else (frisketlaw15_UprightRuns.l0 k1 l0 t164 t167 ((rd_T37 t164 x6_1).f1) (wrap64 (x6_1 + 1)))) else (none)) else (none)) = some r := by first | (rw [hji19] at H; exact H) | (simp only [hji19] at H ⊢; exact H)
                        have hji19w : (IntKind.i64.wrap (x6_1 - 1)) = ji19 := (i64_w _).trans hji19
                        by_cases c20 : 0 ≤ (ji19)
                        · rw [if_pos c20] at H
                          have c20b0 : decide (0 ≤ (ji19)) = true := decide_eq_true c20
                          clear c20
                          by_cases c21 : (ji19) < (t164.length : Int)
                          · rw [if_pos c21] at H
                            have c21b0 : decide ((ji19) < (t164.length : Int)) = true := decide_eq_true c21
                            clear c21
                            by_cases c22 : ((rd_T37 t164 x6_1).f2) = ((rd_T37 t164 (ji19)).f2)
                            · rw [if_pos c22] at H
                              have c22b0 : (((rd_T37 t164 x6_1).f2) == ((rd_T37 t164 (ji19)).f2)) = true := beq_iff_eq.mpr c22
                              have c22b1 : (((rd_T37 t164 x6_1).f2) != ((rd_T37 t164 (ji19)).f2)) = false := bne_eq_false_iff_eq.mpr c22
                              clear c22
                              exact af_absurd HRT.out H (by repeat (first | exact AF.none | exact AF.false | refine AF.ite ?_ ?_ | refine AF.bind (fun _ => ?_)))
                            · rw [if_neg c22] at H
                              have c22b0 : (((rd_T37 t164 x6_1).f2) == ((rd_T37 t164 (ji19)).f2)) = false := beq_eq_false_iff_ne.mpr c22
                              have c22b1 : (((rd_T37 t164 x6_1).f2) != ((rd_T37 t164 (ji19)).f2)) = true := bne_iff_ne.mpr c22
                              have H' := Aside0.mk H
                              clear H
                              have p170 : 0 ≤ (x6_1 : Int) := of_decide_eq_true (by first | (with_reducible assumption) | assumption)
                              have q170 : x6_1 < (t164.length : Int) := of_decide_eq_true (by first | (with_reducible assumption) | assumption)
                              obtain ⟨ad170, e170, hx170_0, hx170_1, hx170_2⟩ := at_T37 (Kd.R_reads' HO_3.out).2.2 x6_1 p170 q170
                              cases e170
                              replace p170 := eq_true p170
                              replace q170 := eq_true q170
                              have p171 : 0 ≤ (x6_1 : Int) := of_decide_eq_true (by first | (with_reducible assumption) | assumption)
                              have q171 : x6_1 < (t167.length : Int) := of_decide_eq_true (by first | (with_reducible assumption) | assumption)
                              obtain ⟨ad171, e171, hx171_0, hx171_1, hx171_2⟩ := at_T37 (Kd.R_reads' HO_4.out).2.2 x6_1 p171 q171
                              cases e171
                              replace p171 := eq_true p171
                              replace q171 := eq_true q171
                              have p172 : 0 ≤ (x6_1 : Int) := of_decide_eq_true (by first | (with_reducible assumption) | assumption)
                              have q172 : x6_1 < (t164.length : Int) := of_decide_eq_true (by first | (with_reducible assumption) | assumption)
                              obtain ⟨ad172, e172, hx172_0, hx172_1, hx172_2⟩ := at_T37 (Kd.R_reads' HO_3.out).2.2 x6_1 p172 q172
                              obtain rfl : ad170 = ad172 := (by injection e172)
                              replace p172 := eq_true p172
                              replace q172 := eq_true q172
                              have p173 : 0 ≤ (x6_1 : Int) := of_decide_eq_true (by first | (with_reducible assumption) | assumption)
                              have q173 : x6_1 < (t164.length : Int) := of_decide_eq_true (by first | (with_reducible assumption) | assumption)
                              obtain ⟨ad173, e173, hx173_0, hx173_1, hx173_2⟩ := at_T37 (Kd.R_reads' HO_3.out).2.2 x6_1 p173 q173
                              obtain rfl : ad170 = ad173 := (by injection e173)
                              replace p173 := eq_true p173
                              replace q173 := eq_true q173
                              have p174 : 0 ≤ (x6_1 : Int) := of_decide_eq_true (by first | (with_reducible assumption) | assumption)
                              have q174 : x6_1 < (t164.length : Int) := of_decide_eq_true (by first | (with_reducible assumption) | assumption)
                              obtain ⟨ad174, e174, hx174_0, hx174_1, hx174_2⟩ := at_T37 (Kd.R_reads' HO_3.out).2.2 x6_1 p174 q174
                              obtain rfl : ad170 = ad174 := (by injection e174)
                              replace p174 := eq_true p174
                              replace q174 := eq_true q174
                              have p175 : 0 ≤ ((ji19) : Int) := of_decide_eq_true (by first | (with_reducible assumption) | assumption)
                              have q175 : (ji19) < (t164.length : Int) := of_decide_eq_true (by first | (with_reducible assumption) | assumption)
                              obtain ⟨ad175, e175, hx175_0, hx175_1, hx175_2⟩ := at_T37 (Kd.R_reads' HO_3.out).2.2 (ji19) p175 q175
                              obtain rfl : ad170 = ad175 := (by injection e175)
                              replace p175 := eq_true p175
                              replace q175 := eq_true q175
                              have p176 : 0 ≤ (x6_1 : Int) := of_decide_eq_true (by first | (with_reducible assumption) | assumption)
                              have q176 : x6_1 < (t164.length : Int) := of_decide_eq_true (by first | (with_reducible assumption) | assumption)
                              obtain ⟨ad176, e176, hx176_0, hx176_1, hx176_2⟩ := at_T37 (Kd.R_reads' HO_3.out).2.2 x6_1 p176 q176
                              obtain rfl : ad170 = ad176 := (by injection e176)
                              replace p176 := eq_true p176
                              replace q176 := eq_true q176
                              go_wp2
                              repeat (go_quiet (fail); try go_wp2)
                              go_roundg k1
                              case measure => have := HK1.out; omega
                              case rel => exact ⟨((rd_T37 t164 x6_1).f1), (wrap64 (x6_1 + 1)), (by first | rfl | (simp; done) | (simp [*]; done)), (by first | rfl | (simp; done) | (simp [*]; done)), H', ⟨by have := HK1.out; omega⟩, ⟨by (with_reducible repeat (first | apply Kd.R_alloc | apply Kd.R_drewN | apply Kd.R_drew)); exact HO_3.out⟩, ⟨by (with_reducible repeat (first | apply Kd.R_alloc | apply Kd.R_drewN | apply Kd.R_drew)); exact HO_4.out⟩, ⟨by repeat (first | (with_reducible first | exact HB.out | apply below_alloc | apply pw_below_drewN | apply below_drew1) | exact HB.out)⟩⟩
                          · rw [if_neg c21] at H
                            exact absurd H (by simp)
                        · rw [if_neg c20] at H
                          exact absurd H (by simp)
                      · rw [if_neg c18] at H
                        have c18b0 : decide (0 < x6_1) = false := decide_eq_false c18
                        clear c18
                        have H' := Aside0.mk H
                        clear H
                        have p170 : 0 ≤ (x6_1 : Int) := of_decide_eq_true (by first | (with_reducible assumption) | assumption)
                        have q170 : x6_1 < (t164.length : Int) := of_decide_eq_true (by first | (with_reducible assumption) | assumption)
                        obtain ⟨ad170, e170, hx170_0, hx170_1, hx170_2⟩ := at_T37 (Kd.R_reads' HO_3.out).2.2 x6_1 p170 q170
                        cases e170
                        replace p170 := eq_true p170
                        replace q170 := eq_true q170
                        have p171 : 0 ≤ (x6_1 : Int) := of_decide_eq_true (by first | (with_reducible assumption) | assumption)
                        have q171 : x6_1 < (t167.length : Int) := of_decide_eq_true (by first | (with_reducible assumption) | assumption)
                        obtain ⟨ad171, e171, hx171_0, hx171_1, hx171_2⟩ := at_T37 (Kd.R_reads' HO_4.out).2.2 x6_1 p171 q171
                        cases e171
                        replace p171 := eq_true p171
                        replace q171 := eq_true q171
                        have p172 : 0 ≤ (x6_1 : Int) := of_decide_eq_true (by first | (with_reducible assumption) | assumption)
                        have q172 : x6_1 < (t164.length : Int) := of_decide_eq_true (by first | (with_reducible assumption) | assumption)
                        obtain ⟨ad172, e172, hx172_0, hx172_1, hx172_2⟩ := at_T37 (Kd.R_reads' HO_3.out).2.2 x6_1 p172 q172
                        obtain rfl : ad170 = ad172 := (by injection e172)
                        replace p172 := eq_true p172
                        replace q172 := eq_true q172
                        have p173 : 0 ≤ (x6_1 : Int) := of_decide_eq_true (by first | (with_reducible assumption) | assumption)
                        have q173 : x6_1 < (t164.length : Int) := of_decide_eq_true (by first | (with_reducible assumption) | assumption)
                        obtain ⟨ad173, e173, hx173_0, hx173_1, hx173_2⟩ := at_T37 (Kd.R_reads' HO_3.out).2.2 x6_1 p173 q173
                        obtain rfl : ad170 = ad173 := (by injection e173)
                        replace p173 := eq_true p173
                        replace q173 := eq_true q173
                        have p177 : 0 ≤ (x6_1 : Int) := of_decide_eq_true (by first | (with_reducible assumption) | assumption)
                        have q177 : x6_1 < (t164.length : Int) := of_decide_eq_true (by first | (with_reducible assumption) | assumption)
                        obtain ⟨ad177, e177, hx177_0, hx177_1, hx177_2⟩ := at_T37 (Kd.R_reads' HO_3.out).2.2 x6_1 p177 q177
                        obtain rfl : ad170 = ad177 := (by injection e177)
                        replace p177 := eq_true p177
                        replace q177 := eq_true q177
                        go_wp2
                        repeat (go_quiet (fail); try go_wp2)
                        go_roundg k1
                        case measure => have := HK1.out; omega
                        case rel => exact ⟨((rd_T37 t164 x6_1).f1), (wrap64 (x6_1 + 1)), (by first | rfl | (simp; done) | (simp [*]; done)), (by first | rfl | (simp; done) | (simp [*]; done)), H', ⟨by have := HK1.out; omega⟩, ⟨by (with_reducible repeat (first | apply Kd.R_alloc | apply Kd.R_drewN | apply Kd.R_drew)); exact HO_3.out⟩, ⟨by (with_reducible repeat (first | apply Kd.R_alloc | apply Kd.R_drewN | apply Kd.R_drew)); exact HO_4.out⟩, ⟨by repeat (first | (with_reducible first | exact HB.out | apply below_alloc | apply pw_below_drewN | apply below_drew1) | exact HB.out)⟩⟩
                  · rw [if_neg c16] at H
                    have c16b0 : (((rd_T37 t164 x6_1).f0) == x5_1) = false := beq_eq_false_iff_ne.mpr c16
                    have c16b1 : (((rd_T37 t164 x6_1).f0) != x5_1) = true := bne_iff_ne.mpr c16
                    exact af_absurd HRT.out H (by repeat (first | exact AF.none | exact AF.false | refine AF.ite ?_ ?_ | refine AF.bind (fun _ => ?_)))
              · rw [if_neg c14] at H
                exact absurd H (by simp)
            · rw [if_neg c13] at H
              exact absurd H (by simp)
          · rw [if_neg c12] at H
            have c12b0 : decide (x6_1 < (t164.length : Int)) = false := decide_eq_false c12
            clear c12
            replace H := Option.bind_eq_some_iff.mp H
            obtain ⟨t178, A230, H⟩ := H
            replace H : (if t178 = true then (some (x5_1 == (l0.length : Int))) else (some false)) = some r := H
            have A23 := Aside0.mk A230
            clear A230
            by_cases c24 : t178 = true
            · subst c24
              have H1 : (some (x5_1 == (l0.length : Int))) = some r := by rw [if_pos rfl] at H; exact H
              clear H
              have H := H1
              clear H1
              obtain rfl := Option.some.inj H
              go_wp2_with (first | (go_at_call 7; (with_reducible refine (frisketlaw15_alive.calls k1  true _ A23.out).mono ?_); rintro e w25 ⟨rfl, hb⟩; have n0_ := Aside0.mk (Kd.R_below (by (with_reducible repeat (first | apply Kd.R_alloc | apply Kd.R_drewN | apply Kd.R_drew)); exact HO_3.out) hb); have n1_ := Aside0.mk (Kd.R_below (by (with_reducible repeat (first | apply Kd.R_alloc | apply Kd.R_drewN | apply Kd.R_drew)); exact HO_4.out) hb); have n2_ := Aside0.mk (below_step (by repeat (first | (with_reducible first | exact HB.out | apply below_alloc | apply pw_below_drewN | apply below_drew1) | exact HB.out)) hb); clear HO_3; clear HO_4; clear HB; have HO_3 := n0_; have HO_4 := n1_; have HB := n2_; clear n0_ n1_ n2_; (try clear hb); (try clear hb2); (try clear hk); (try clear hi)))
              repeat (go_quiet (first | (go_at_call 7; (with_reducible refine (frisketlaw15_alive.calls k1  true _ A23.out).mono ?_); rintro e w25 ⟨rfl, hb⟩; have n0_ := Aside0.mk (Kd.R_below (by (with_reducible repeat (first | apply Kd.R_alloc | apply Kd.R_drewN | apply Kd.R_drew)); exact HO_3.out) hb); have n1_ := Aside0.mk (Kd.R_below (by (with_reducible repeat (first | apply Kd.R_alloc | apply Kd.R_drewN | apply Kd.R_drew)); exact HO_4.out) hb); have n2_ := Aside0.mk (below_step (by repeat (first | (with_reducible first | exact HB.out | apply below_alloc | apply pw_below_drewN | apply below_drew1) | exact HB.out)) hb); clear HO_3; clear HO_4; clear HB; have HO_3 := n0_; have HO_4 := n1_; have HB := n2_; clear n0_ n1_ n2_; (try clear hb); (try clear hb2); (try clear hk); (try clear hi))); try go_wp2_with (first | (go_at_call 7; (with_reducible refine (frisketlaw15_alive.calls k1  true _ A23.out).mono ?_); rintro e w25 ⟨rfl, hb⟩; have n0_ := Aside0.mk (Kd.R_below (by (with_reducible repeat (first | apply Kd.R_alloc | apply Kd.R_drewN | apply Kd.R_drew)); exact HO_3.out) hb); have n1_ := Aside0.mk (Kd.R_below (by (with_reducible repeat (first | apply Kd.R_alloc | apply Kd.R_drewN | apply Kd.R_drew)); exact HO_4.out) hb); have n2_ := Aside0.mk (below_step (by repeat (first | (with_reducible first | exact HB.out | apply below_alloc | apply pw_below_drewN | apply below_drew1) | exact HB.out)) hb); clear HO_3; clear HO_4; clear HB; have HO_3 := n0_; have HO_4 := n1_; have HB := n2_; clear n0_ n1_ n2_; (try clear hb); (try clear hb2); (try clear hk); (try clear hi))))
              go_ret
              exact ⟨by first | rfl | (simp [errW_none, errW_some] <;> rfl) | (simp [*, errW_none, errW_some] <;> rfl), by repeat (first | (with_reducible first | exact HB.out | apply below_alloc | apply pw_below_drewN | apply below_drew1) | exact HB.out)⟩
            · replace c24 := Bool.eq_false_iff.mpr c24
              subst c24
              have H1 : (some false) = some r := by rw [if_neg (show ¬ (false = true) by decide)] at H; exact H
              clear H
              have H := H1
              clear H1
              exact af_absurd HRT.out H (by repeat (first | exact AF.none | exact AF.false | refine AF.ite ?_ ?_ | refine AF.bind (fun _ => ?_)))
    · rw [if_neg c7] at H
      have c7b0 : ((t164.length : Int) == (t167.length : Int)) = false := beq_eq_false_iff_ne.mpr c7
      have c7b1 : ((t164.length : Int) != (t167.length : Int)) = true := bne_iff_ne.mpr c7
      have c7b2 : (t164.length == t167.length) = false := by first | simpa using c7 | (simp at c7 ⊢; omega)
      exact af_absurd HRT.out H (by repeat (first | exact AF.none | exact AF.false | refine AF.ite ?_ ?_ | refine AF.bind (fun _ => ?_)))

end Go.Proofs.Ytfpaagilejdghaa.P
