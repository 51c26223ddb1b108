/- Written by wip/tools/gprint.py of this repo over the translation: Lean functions that answer as the Go functions named below do, and the proof of it; the conditions stand in each theorem. -/
import Derived.Test.YtbcflgiapiclgaaP0
import Derived.Test.YtbcflgiapiclgaaP1
import Derived.Test.YtbcflgiapiclgaaP3
import Derived.Test.YtbcflgiapiclgaaP6
import Derived.Test.YtbcflgiapiclgaaP7
import Derived.Test.YtbcflgiapiclgaaP8
import Derived.Test.YtbcflgiapiclgaaP10
import Derived.Test.YtbcflgiapiclgaaP13
import Derived.Test.YtbcflgiapiclgaaP14
import Derived.Test.YtbcflgiapiclgaaP15
import Derived.Test.YtbcflgiapiclgaaP16
import Derived.Test.YtbcflgiapiclgaaHAll
namespace Go.Proofs.Ytbcflgiapiclgaa.P
open Go.RowKit Go.Proofs.YtbcflgiapiclgaaW.PrintWords Go.Proofs.YtbcflgiapiclgaaW.PrintLast Go.Proofs.YtbcflgiapiclgaaW.PrintMore
attribute [local go_sem] max2_int min2_int max_two min_two max_three min_three max_four min_four   -- for this text's walks alone
set_option linter.unusedVariables false
set_option linter.unusedSimpArgs false

/-! ### frisketlaw06_BreaksTell: function 3 -/
def frisketlaw06_BreaksTell.f (k : Nat) (l0 : List Int) (a1 : Int) : Option (Bool) := if (l0.length : Int) > 80 then ((frisketlaw06_alive.f k).bind fun t159 => (some t159)) else ((some (([] : List Int) : List Int)).bind fun y160 => (if y160.length + l0.length < 17592186044416 then ((breaks_All.f l0).bind fun t166 => ((frisketref06_All.f k l0).bind fun t169 => ((frisketref01_Ints.f k t166 t169).bind fun t172 => ((breaks_Counts.f k l0).bind fun t173 => ((frisketref06_Counts.f k l0).bind fun t176 => ((frisketlaw06_same.f k t173 t176).bind fun t179 => ((frisketlaw06_same.f k l0 (y160 ++ l0)).bind fun t180 => ((frisketlaw06_alive.f k).bind fun t181 => (if t181 = true then (if t172 = true then (if t179 = true then (if t180 = true then ((breaks_At.f l0 a1).bind fun t182 => ((frisketref06_At.f k l0 a1).bind fun t183 => (if t182 = t183 then ((breaks_Next.f k l0 a1).bind fun t184 => ((frisketref06_Next.f k l0 a1).bind fun t185 => (some (t184 == t185)))) else (some false)))) else (some false)) else (some false)) else (some false)) else (some false)))))))))) else (none)))
theorem frisketlaw06_BreaksTell.mono : ∀ a0 a1 k, LeO (frisketlaw06_BreaksTell.f k a0 a1) (frisketlaw06_BreaksTell.f (k + 1) a0 a1) := by
  intro a0 a1 k
  unfold frisketlaw06_BreaksTell.f
  repeat' first
      | (with_reducible exact breaks_Counts.mono _ _)
      | (with_reducible exact breaks_Next.mono _ _ _)
      | (with_reducible exact frisketlaw06_alive.mono _)
      | (with_reducible exact frisketlaw06_same.mono _ _ _)
      | (with_reducible exact frisketref01_Ints.mono _ _ _)
      | (with_reducible exact frisketref06_All.mono _ _)
      | (with_reducible exact frisketref06_At.mono _ _ _)
      | (with_reducible exact frisketref06_Counts.mono _ _)
      | (with_reducible exact frisketref06_Next.mono _ _ _)
      | (with_reducible exact LeO.refl _)
      | (with_reducible exact LeO.none _)
      | (with_reducible refine LeO.ite ?_ ?_)
      | (with_reducible refine LeO.bind ?_ (fun _ => ?_))
      | exact breaks_Counts.mono _ _
      | exact breaks_Next.mono _ _ _
      | exact frisketlaw06_alive.mono _
      | exact frisketlaw06_same.mono _ _ _
      | exact frisketref01_Ints.mono _ _ _
      | exact frisketref06_All.mono _ _
      | exact frisketref06_At.mono _ _ _
      | exact frisketref06_Counts.mono _ _
      | exact frisketref06_Next.mono _ _ _
      | exact LeO.none _
      | refine LeO.ite ?_ ?_
      | refine LeO.bind ?_ (fun _ => ?_)
set_option maxHeartbeats 8000000 in
set_option maxRecDepth 100000 in
theorem frisketlaw06_BreaksTell.calls (k : Nat) (A0 : Option Addr) (c0 : Nat) (l0 : List Int) (a1 : Int) (r : Bool) (w : World) (hr0 : Kd.C (Kd.int .i64) w A0 l0.length l0) (hc0 : l0.length ≤ c0) (hrt : r = true) (h : frisketlaw06_BreaksTell.f k l0 a1 = some r) :
    Calls Try.prog 3 #[.slice A0 l0.length c0, .int .i64 a1] w fun e w' => e = .returned (.bool r) ∧ Below w.heap.size w w' := by
  have HR0 := Aside0.mk hr0
  have HC0 := Aside0.mk hc0
  clear hr0 hc0
  have HB := Aside0.mk (Below.refl w.heap.size w)
  have HRT := Aside0.mk hrt
  clear hrt
  have H : (if (l0.length : Int) > 80 then ((frisketlaw06_alive.f k).bind fun t159 => (some t159)) else ((some (([] : List Int) : List Int)).bind fun y160 => (if y160.length + l0.length < 17592186044416 then ((breaks_All.f l0).bind fun t166 => ((frisketref06_All.f k l0).bind fun t169 => ((frisketref01_Ints.f k t166 t169).bind fun t172 => ((breaks_Counts.f k l0).bind fun t173 => ((frisketref06_Counts.f k l0).bind fun t176 => ((frisketlaw06_same.f k t173 t176).bind fun t179 => ((frisketlaw06_same.f k l0 (y160 ++ l0)).bind fun t180 => ((frisketlaw06_alive.f k).bind fun t181 => (if t181 = true then (if t172 = true then (if t179 = true then (if t180 = true then ((breaks_At.f l0 a1).bind fun t182 => ((frisketref06_At.f k l0 a1).bind fun t183 => (if t182 = t183 then ((breaks_Next.f k l0 a1).bind fun t184 => ((frisketref06_Next.f k l0 a1).bind fun t185 => (some (t184 == t185)))) else (some false)))) else (some false)) else (some false)) else (some false)) else (some false)))))))))) else (none)))) = some r := h
  clear h
  by_cases c3 : (l0.length : Int) > 80
  · rw [if_pos c3] at H
    have c3b0 : decide (80 < (l0.length : Int)) = true := decide_eq_true c3
    have c3b1 : decide (80 < l0.length) = true := decide_eq_true (by omega)
    clear c3
    replace H := Option.bind_eq_some_iff.mp H
    obtain ⟨t159, A40, H⟩ := H
    replace H : (some t159) = some r := H
    have A4 := Aside0.mk A40
    clear A40
    obtain rfl := Option.some.inj H
    go_enter Try.func3, Try.ntmps3
    go_wp2_with (first | ((with_reducible refine gate_callee (f := 7) rfl ?_); refine goesL_ (some 12) rfl rfl Try.func7 (by kernel_rfl) rfl #[] rfl (by (try simp only [List.map_toArray, List.map_cons, List.map_nil]); first | done | rfl | (simp only [List.length_drop, List.length_take]; rfl)) ?_; (with_reducible refine (frisketlaw06_alive.calls k  t159 _ A4.out).mono ?_); rintro e w5 ⟨rfl, hb⟩; refine ⟨_, rfl, ?_⟩; have n0_ := Aside0.mk (below_step (by repeat (first | (with_reducible first | exact HB.out | apply below_alloc | apply pw_below_drewN | apply below_drew1) | exact HB.out)) hb); clear HB; have HB := n0_; clear n0_; (try clear hb); (try clear hb2); (try clear hk); (try clear hi)))
    go_ret
    exact ⟨by first | rfl | (simp [errW_none, errW_some] <;> rfl) | (simp [*, errW_none, errW_some] <;> rfl), by repeat (first | (with_reducible first | exact HB.out | apply below_alloc | apply pw_below_drewN | apply below_drew1) | exact HB.out)⟩
  · rw [if_neg c3] at H
    have c3b0 : decide (80 < (l0.length : Int)) = false := decide_eq_false c3
    have c3b1 : decide (80 < l0.length) = false := decide_eq_false (by omega)
    clear c3
    obtain ⟨y160, hy160⟩ : ∃ y_ : List Int, y_ = (([] : List Int)) := ⟨_, rfl⟩
    replace H : (if y160.length + l0.length < 17592186044416 then ((breaks_All.f l0).bind fun t166 => ((frisketref06_All.f k l0).bind fun t169 => ((frisketref01_Ints.f k t166 t169).bind fun t172 => ((breaks_Counts.f k l0).bind fun t173 => ((frisketref06_Counts.f k l0).bind fun t176 => ((frisketlaw06_same.f k t173 t176).bind fun t179 => ((frisketlaw06_same.f k l0 (y160 ++ l0)).bind fun t180 => ((frisketlaw06_alive.f k).bind fun t181 => (if t181 = true then (if t172 = true then (if t179 = true then (if t180 = true then ((breaks_At.f l0 a1).bind fun t182 => ((frisketref06_At.f k l0 a1).bind fun t183 => (if t182 = t183 then ((breaks_Next.f k l0 a1).bind fun t184 => ((frisketref06_Next.f k l0 a1).bind fun t185 => (some (t184 == t185)))) else (some false)))) else (some false)) else (some false)) else (some false)) else (some false)))))))))) else (none)) = some r := by first | (rw [hy160]; with_reducible exact H) | (have H2_ := (Option.bind_some _ _).symm.trans H; rw [hy160]; with_reducible exact H2_) | (have H2_ := (Option.bind_some _ _).symm.trans H; with_reducible exact H2_) | with_reducible exact H | (rw [hy160]; exact H) | exact H
    have Ny160 := Aside0.mk hy160
    clear hy160
    by_cases c6 : y160.length + l0.length < 17592186044416
    · rw [if_pos c6] at H
      have LMc6 := Aside0.mk c6
      clear c6
      obtain ⟨y163, hy163⟩ : ∃ y_ : List Int, y_ = (y160 ++ l0) := ⟨_, rfl⟩
      replace H : ((breaks_All.f l0).bind fun t166 => ((frisketref06_All.f k l0).bind fun t169 => ((frisketref01_Ints.f k t166 t169).bind fun t172 => ((breaks_Counts.f k l0).bind fun t173 => ((frisketref06_Counts.f k l0).bind fun t176 => ((frisketlaw06_same.f k t173 t176).bind fun t179 => ((frisketlaw06_same.f k l0 y163).bind fun t180 => ((frisketlaw06_alive.f k).bind fun t181 => (if t181 = true then (if t172 = true then (if t179 = true then (if t180 = true then ((breaks_At.f l0 a1).bind fun t182 => ((frisketref06_At.f k l0 a1).bind fun t183 => (if t182 = t183 then ((breaks_Next.f k l0 a1).bind fun t184 => ((frisketref06_Next.f k l0 a1).bind fun t185 => (some (t184 == t185)))) else (some false)))) else (some false)) else (some false)) else (some false)) else (some false)))))))))) = some r := by first | (rw [hy163]; with_reducible exact H) | (have H2_ := (Option.bind_some _ _).symm.trans H; rw [hy163]; with_reducible exact H2_) | (have H2_ := (Option.bind_some _ _).symm.trans H; with_reducible exact H2_) | with_reducible exact H | (rw [hy163]; exact H) | exact H
      have Ny163 := Aside0.mk hy163
      clear hy163
      replace H := Option.bind_eq_some_iff.mp H
      obtain ⟨t166, A70, H⟩ := H
      replace H : ((frisketref06_All.f k l0).bind fun t169 => ((frisketref01_Ints.f k t166 t169).bind fun t172 => ((breaks_Counts.f k l0).bind fun t173 => ((frisketref06_Counts.f k l0).bind fun t176 => ((frisketlaw06_same.f k t173 t176).bind fun t179 => ((frisketlaw06_same.f k l0 y163).bind fun t180 => ((frisketlaw06_alive.f k).bind fun t181 => (if t181 = true then (if t172 = true then (if t179 = true then (if t180 = true then ((breaks_At.f l0 a1).bind fun t182 => ((frisketref06_At.f k l0 a1).bind fun t183 => (if t182 = t183 then ((breaks_Next.f k l0 a1).bind fun t184 => ((frisketref06_Next.f k l0 a1).bind fun t185 => (some (t184 == t185)))) else (some false)))) else (some false)) else (some false)) else (some false)) else (some false))))))))) = some r := H
      have A7 := Aside0.mk A70
      clear A70
      replace H := Option.bind_eq_some_iff.mp H
      obtain ⟨t169, A80, H⟩ := H
      replace H : ((frisketref01_Ints.f k t166 t169).bind fun t172 => ((breaks_Counts.f k l0).bind fun t173 => ((frisketref06_Counts.f k l0).bind fun t176 => ((frisketlaw06_same.f k t173 t176).bind fun t179 => ((frisketlaw06_same.f k l0 y163).bind fun t180 => ((frisketlaw06_alive.f k).bind fun t181 => (if t181 = true then (if t172 = true then (if t179 = true then (if t180 = true then ((breaks_At.f l0 a1).bind fun t182 => ((frisketref06_At.f k l0 a1).bind fun t183 => (if t182 = t183 then ((breaks_Next.f k l0 a1).bind fun t184 => ((frisketref06_Next.f k l0 a1).bind fun t185 => (some (t184 == t185)))) else (some false)))) else (some false)) else (some false)) else (some false)) else (some false)))))))) = some r := H
      have A8 := Aside0.mk A80
      clear A80
      replace H := Option.bind_eq_some_iff.mp H
      obtain ⟨t172, A90, H⟩ := H
      replace H : ((breaks_Counts.f k l0).bind fun t173 => ((frisketref06_Counts.f k l0).bind fun t176 => ((frisketlaw06_same.f k t173 t176).bind fun t179 => ((frisketlaw06_same.f k l0 y163).bind fun t180 => ((frisketlaw06_alive.f k).bind fun t181 => (if t181 = true then (if t172 = true then (if t179 = true then (if t180 = true then ((breaks_At.f l0 a1).bind fun t182 => ((frisketref06_At.f k l0 a1).bind fun t183 => (if t182 = t183 then ((breaks_Next.f k l0 a1).bind fun t184 => ((frisketref06_Next.f k l0 a1).bind fun t185 => (some (t184 == t185)))) else (some false)))) else (some false)) else (some false)) else (some false)) else (some false))))))) = some r := H
      have A9 := Aside0.mk A90
      clear A90
      replace H := Option.bind_eq_some_iff.mp H
      obtain ⟨t173, A100, H⟩ := H
      replace H : ((frisketref06_Counts.f k l0).bind fun t176 => ((frisketlaw06_same.f k t173 t176).bind fun t179 => ((frisketlaw06_same.f k l0 y163).bind fun t180 => ((frisketlaw06_alive.f k).bind fun t181 => (if t181 = true then (if t172 = true then (if t179 = true then (if t180 = true then ((breaks_At.f l0 a1).bind fun t182 => ((frisketref06_At.f k l0 a1).bind fun t183 => (if t182 = t183 then ((breaks_Next.f k l0 a1).bind fun t184 => ((frisketref06_Next.f k l0 a1).bind fun t185 => (some (t184 == t185)))) else (some false)))) else (some false)) else (some false)) else (some false)) else (some false)))))) = some r := H
      have A10 := Aside0.mk A100
      clear A100
      replace H := Option.bind_eq_some_iff.mp H
      obtain ⟨t176, A110, H⟩ := H
      replace H : ((frisketlaw06_same.f k t173 t176).bind fun t179 => ((frisketlaw06_same.f k l0 y163).bind fun t180 => ((frisketlaw06_alive.f k).bind fun t181 => (if t181 = true then (if t172 = true then (if t179 = true then (if t180 = true then ((breaks_At.f l0 a1).bind fun t182 => ((frisketref06_At.f k l0 a1).bind fun t183 => (if t182 = t183 then ((breaks_Next.f k l0 a1).bind fun t184 => ((frisketref06_Next.f k l0 a1).bind fun t185 => (some (t184 == t185)))) else (some false)))) else (some false)) else (some false)) else (some false)) else (some false))))) = some r := H
      have A11 := Aside0.mk A110
      clear A110
      replace H := Option.bind_eq_some_iff.mp H
      obtain ⟨t179, A120, H⟩ := H
      replace H : ((frisketlaw06_same.f k l0 y163).bind fun t180 => ((frisketlaw06_alive.f k).bind fun t181 => (if t181 = true then (if t172 = true then (if t179 = true then (if t180 = true then ((breaks_At.f l0 a1).bind fun t182 => ((frisketref06_At.f k l0 a1).bind fun t183 => (if t182 = t183 then ((breaks_Next.f k l0 a1).bind fun t184 => ((frisketref06_Next.f k l0 a1).bind fun t185 => (some (t184 == t185)))) else (some false)))) else (some false)) else (some false)) else (some false)) else (some false)))) = some r := H
      have A12 := Aside0.mk A120
      clear A120
      replace H := Option.bind_eq_some_iff.mp H
      obtain ⟨t180, A130, H⟩ := H
      replace H : ((frisketlaw06_alive.f k).bind fun t181 => (if t181 = true then (if t172 = true then (if t179 = true then (if t180 = true then ((breaks_At.f l0 a1).bind fun t182 => ((frisketref06_At.f k l0 a1).bind fun t183 => (if t182 = t183 then ((breaks_Next.f k l0 a1).bind fun t184 => ((frisketref06_Next.f k l0 a1).bind fun t185 => (some (t184 == t185)))) else (some false)))) else (some false)) else (some false)) else (some false)) else (some false))) = some r := H
      have A13 := Aside0.mk A130
      clear A130
      replace H := Option.bind_eq_some_iff.mp H
      obtain ⟨t181, A140, H⟩ := H
      replace H : (if t181 = true then (if t172 = true then (if t179 = true then (if t180 = true then ((breaks_At.f l0 a1).bind fun t182 => ((frisketref06_At.f k l0 a1).bind fun t183 => (if t182 = t183 then ((breaks_Next.f k l0 a1).bind fun t184 => ((frisketref06_Next.f k l0 a1).bind fun t185 => (some (t184 == t185)))) else (some false)))) else (some false)) else (some false)) else (some false)) else (some false)) = some r := H
      have A14 := Aside0.mk A140
      clear A140
      by_cases c15 : t181 = true
      · subst c15
        have H1 : (if t172 = true then (if t179 = true then (if t180 = true then ((breaks_At.f l0 a1).bind fun t182 => ((frisketref06_At.f k l0 a1).bind fun t183 => (if t182 = t183 then ((breaks_Next.f k l0 a1).bind fun t184 => ((frisketref06_Next.f k l0 a1).bind fun t185 => (some (t184 == t185)))) else (some false)))) else (some false)) else (some false)) else (some false)) = some r := by rw [if_pos rfl] at H; exact H
        clear H
        have H := H1
        clear H1
        by_cases c16 : t172 = true
        · subst c16
          have H1 : (if t179 = true then (if t180 = true then ((breaks_At.f l0 a1).bind fun t182 => ((frisketref06_At.f k l0 a1).bind fun t183 => (if t182 = t183 then ((breaks_Next.f k l0 a1).bind fun t184 => ((frisketref06_Next.f k l0 a1).bind fun t185 => (some (t184 == t185)))) else (some false)))) else (some false)) else (some false)) = some r := by rw [if_pos rfl] at H; exact H
          clear H
          have H := H1
          clear H1
          by_cases c17 : t179 = true
          · subst c17
            have H1 : (if t180 = true then ((breaks_At.f l0 a1).bind fun t182 => ((frisketref06_At.f k l0 a1).bind fun t183 => (if t182 = t183 then ((breaks_Next.f k l0 a1).bind fun t184 => ((frisketref06_Next.f k l0 a1).bind fun t185 => (some (t184 == t185)))) else (some false)))) else (some false)) = some r := by rw [if_pos rfl] at H; exact H
            clear H
            have H := H1
            clear H1
            by_cases c18 : t180 = true
            · subst c18
              have H1 : ((breaks_At.f l0 a1).bind fun t182 => ((frisketref06_At.f k l0 a1).bind fun t183 => (if t182 = t183 then ((breaks_Next.f k l0 a1).bind fun t184 => ((frisketref06_Next.f k l0 a1).bind fun t185 => (some (t184 == t185)))) else (some false)))) = some r := by rw [if_pos rfl] at H; exact H
              clear H
              have H := H1
              clear H1
              replace H := Option.bind_eq_some_iff.mp H
              obtain ⟨t182, A190, H⟩ := H
              replace H : ((frisketref06_At.f k l0 a1).bind fun t183 => (if t182 = t183 then ((breaks_Next.f k l0 a1).bind fun t184 => ((frisketref06_Next.f k l0 a1).bind fun t185 => (some (t184 == t185)))) else (some false))) = some r := H
              have A19 := Aside0.mk A190
              clear A190
              replace H := Option.bind_eq_some_iff.mp H
              obtain ⟨t183, A200, H⟩ := H
              replace H : (if t182 = t183 then ((breaks_Next.f k l0 a1).bind fun t184 => ((frisketref06_Next.f k l0 a1).bind fun t185 => (some (t184 == t185)))) else (some false)) = some r := H
              have A20 := Aside0.mk A200
              clear A200
              by_cases c21 : t182 = t183
              · rw [if_pos c21] at H
                have c21b0 : (t182 == t183) = true := beq_iff_eq.mpr c21
                have c21b1 : (t182 != t183) = false := bne_eq_false_iff_eq.mpr c21
                clear c21
                replace H := Option.bind_eq_some_iff.mp H
                obtain ⟨t184, A220, H⟩ := H
                replace H : ((frisketref06_Next.f k l0 a1).bind fun t185 => (some (t184 == t185))) = some r := H
                have A22 := Aside0.mk A220
                clear A220
                replace H := Option.bind_eq_some_iff.mp H
                obtain ⟨t185, A230, H⟩ := H
                replace H : (some (t184 == t185)) = some r := H
                have A23 := Aside0.mk A230
                clear A230
                obtain rfl := Option.some.inj H
                go_enter Try.func3, Try.ntmps3
                go_wp2_with (first | ((with_reducible refine gate_dst (N := 13) rfl ?_); refine Kd.R_lit (Kd.int .i64) _ 31 ?hg (N := 13) ?hd (xs := ([] : List Int)) (inner := []) (ok := fun _ => True) (okp := fun _ => True) ?hr ?hp (fun _ hk => hk) trivial (Below.refl _ _) (Nat.le_refl _) (by simp) ?_; (case hd => rfl); (case hg => rfl); (case hr => first | (go_simp; done) | (go_simp; rfl)); (case hp => exact (Reps.none _ _)); intro v161 w24 ho25 hb hg_ hnew_; clear hg_ hnew_; (first | rw [← Ny160.out] at ho25 | (simp only [Int.reduceToNat] at ho25; rw [← Ny160.out] at ho25)); have n0_ := Aside0.mk (Kd.R_lower ho25 (below_size (by repeat (first | (with_reducible first | exact HB.out | apply below_alloc | apply pw_below_drewN | apply below_drew1) | exact HB.out)))); have n1_ := Aside0.mk (below_step (by repeat (first | (with_reducible first | exact HB.out | apply below_alloc | apply pw_below_drewN | apply below_drew1) | exact HB.out)) hb); clear HB; have HO162 := n0_; have HB := n1_; clear n0_ n1_; clear hb ho25) | ((with_reducible refine gate_builtin (b := .append) (xs := #[.tmp 13, .tmp 14]) rfl ?_); at_builtin; refine Kd.R_append_rows (Kd.int .i64) (w0 := w) w.heap.size rfl (.tmp 13) (.tmp 14) 22 31 (.int .i64 0) 8 rfl Try.underlying22 info31 rfl (by decide) (by omega) v161 y160 l0 _ _ _ (fun _ => True) (fun _ => False) rfl rfl ?aO ?aR (fun _ _ h => h) (fun _ h => h.elim) ?aF ?aB ?aS ?aL ?_; (case aR => repeat (first | exact (Kd.C_below HR0.out HB.out) | (with_reducible refine Kd.C_alloc ?_ _) | (with_reducible refine Kd.C_drewN ?_ _) | (with_reducible refine Kd.C_drew ?_))); (case aB => exact (by repeat (first | (with_reducible first | exact HB.out | apply below_alloc | apply pw_below_drewN | apply below_drew1) | exact HB.out))); (case aF => exact (fun _ _ => trivial)); (case aO => exact (by (with_reducible repeat (first | apply Kd.R_alloc | apply Kd.R_drewN | apply Kd.R_drew)); exact HO162.out)); (case aS => exact (below_size (by repeat (first | (with_reducible first | exact HB.out | apply below_alloc | apply pw_below_drewN | apply below_drew1) | exact HB.out)))); (case aL => have := LMc6.out; omega); intro v164 w26 ho hb hg hat; rw [← Ny163.out] at ho; have n0_ := Aside0.mk (hb); have n1_ := Aside0.mk (ho); clear HB; clear HO162; have HB := n0_; have HO165 := n1_; clear n0_ n1_; clear ho hb hg hat) | ((with_reducible refine gate_callee (f := 9) rfl ?_); refine goesL_ (some 17) rfl rfl Try.func9 (by kernel_rfl) rfl #[.slice A0 l0.length c0] rfl (by (try simp only [List.map_toArray, List.map_cons, List.map_nil]); first | done | rfl | (simp only [List.length_drop, List.length_take]; rfl)) ?_; (with_reducible refine (breaks_All.calls _ _ l0 t166 _ ?side1 ?side2 A7.out).mono ?_); (case side1 => repeat (first | exact (Kd.C_below HR0.out HB.out) | (with_reducible refine Kd.C_alloc ?_ _) | (with_reducible refine Kd.C_drewN ?_ _) | (with_reducible refine Kd.C_drew ?_))); (case side2 => exact HC0.out); rintro e w27 ⟨v167, rfl, ho0, hb⟩; refine ⟨_, rfl, ?_⟩; have n0_ := Aside0.mk (Kd.R_below (by (with_reducible repeat (first | apply Kd.R_alloc | apply Kd.R_drewN | apply Kd.R_drew)); exact HO165.out) hb); have n1_ := Aside0.mk (Kd.R_lower ho0 (below_size (by repeat (first | (with_reducible first | exact HB.out | apply below_alloc | apply pw_below_drewN | apply below_drew1) | exact HB.out)))); have n2_ := Aside0.mk (below_step (by repeat (first | (with_reducible first | exact HB.out | apply below_alloc | apply pw_below_drewN | apply below_drew1) | exact HB.out)) hb); clear HO165; clear HB; have HO165 := n0_; have HO168 := n1_; have HB := n2_; clear n0_ n1_ n2_; (try clear hb); (try clear hb2); (try clear hk); (try clear hi); (try clear ho0)) | ((with_reducible refine gate_callee (f := 10) rfl ?_); refine goesL_ (some 19) rfl rfl Try.func10 (by kernel_rfl) rfl #[.slice A0 l0.length c0] rfl (by (try simp only [List.map_toArray, List.map_cons, List.map_nil]); first | done | rfl | (simp only [List.length_drop, List.length_take]; rfl)) ?_; (with_reducible refine (frisketref06_All.calls k _ _ l0 t169 _ ?side1 ?side2 A8.out).mono ?_); (case side1 => repeat (first | exact (Kd.C_below HR0.out HB.out) | (with_reducible refine Kd.C_alloc ?_ _) | (with_reducible refine Kd.C_drewN ?_ _) | (with_reducible refine Kd.C_drew ?_))); (case side2 => exact HC0.out); rintro e w28 ⟨v170, rfl, ho0, hb⟩; refine ⟨_, rfl, ?_⟩; have n0_ := Aside0.mk (Kd.R_below (by (with_reducible repeat (first | apply Kd.R_alloc | apply Kd.R_drewN | apply Kd.R_drew)); exact HO165.out) hb); have n1_ := Aside0.mk (Kd.R_elder' (by (with_reducible repeat (first | apply Kd.R_alloc | apply Kd.R_drewN | apply Kd.R_drew)); exact HO168.out) (Kd.R_base ho0) hb); have n2_ := Aside0.mk (Kd.R_lower (Kd.R_new' ho0 (Kd.R_lt (by (with_reducible repeat (first | apply Kd.R_alloc | apply Kd.R_drewN | apply Kd.R_drew)); exact HO168.out))) (below_size (by repeat (first | (with_reducible first | exact HB.out | apply below_alloc | apply pw_below_drewN | apply below_drew1) | exact HB.out)))); have n3_ := Aside0.mk (below_step (by repeat (first | (with_reducible first | exact HB.out | apply below_alloc | apply pw_below_drewN | apply below_drew1) | exact HB.out)) hb); clear HO165; clear HO168; clear HB; have HO165 := n0_; have HO168 := n1_; have HO171 := n2_; have HB := n3_; clear n0_ n1_ n2_ n3_; (try clear hb); (try clear hb2); (try clear hk); (try clear hi); (try clear ho0); obtain ⟨Ao29, co29, eo29⟩ := Kd.R_slice HO168.out; subst eo29; obtain ⟨Ao30, co30, eo30⟩ := Kd.R_slice HO171.out; subst eo30) | ((with_reducible refine gate_callee (f := 8) rfl ?_); refine goesL_ (some 20) rfl rfl Try.func8 (by kernel_rfl) rfl #[.slice Ao29 t166.length co29, .slice Ao30 t169.length co30] rfl (by (try simp only [List.map_toArray, List.map_cons, List.map_nil]); first | done | rfl | (simp only [List.length_drop, List.length_take]; rfl)) ?_; (with_reducible refine (frisketref01_Ints.calls k _ _ t166 _ _ t169 true _ ?side1 ?side2 ?side3 ?side4 A9.out).mono ?_); (case side1 => repeat (first | exact (Kd.R_reads' HO168.out).2.2 | (with_reducible refine Kd.C_alloc ?_ _) | (with_reducible refine Kd.C_drewN ?_ _) | (with_reducible refine Kd.C_drew ?_))); (case side2 => exact (Kd.R_reads' HO168.out).2.1); (case side3 => repeat (first | exact (Kd.R_reads' HO171.out).2.2 | (with_reducible refine Kd.C_alloc ?_ _) | (with_reducible refine Kd.C_drewN ?_ _) | (with_reducible refine Kd.C_drew ?_))); (case side4 => exact (Kd.R_reads' HO171.out).2.1); rintro e w' ⟨rfl, ⟨nd, rfl⟩⟩; refine ⟨_, rfl, ?_⟩) | ((with_reducible refine gate_callee (f := 12) rfl ?_); refine goesL_ (some 22) rfl rfl Try.func12 (by kernel_rfl) rfl #[.slice A0 l0.length c0] rfl (by (try simp only [List.map_toArray, List.map_cons, List.map_nil]); first | done | rfl | (simp only [List.length_drop, List.length_take]; rfl)) ?_; (with_reducible refine (breaks_Counts.calls k _ _ l0 t173 _ ?side1 ?side2 A10.out).mono ?_); (case side1 => repeat (first | exact (Kd.C_below HR0.out (by repeat (first | (with_reducible first | exact HB.out | apply below_alloc | apply pw_below_drewN | apply below_drew1) | exact HB.out))) | (with_reducible refine Kd.C_alloc ?_ _) | (with_reducible refine Kd.C_drewN ?_ _) | (with_reducible refine Kd.C_drew ?_))); (case side2 => exact HC0.out); rintro e w31 ⟨v174, rfl, ho0, hb⟩; refine ⟨_, rfl, ?_⟩; have n0_ := Aside0.mk (Kd.R_elder' (by (with_reducible repeat (first | apply Kd.R_alloc | apply Kd.R_drewN | apply Kd.R_drew)); exact HO165.out) (Kd.R_base ho0) hb); have n1_ := Aside0.mk (Kd.R_below (by (with_reducible repeat (first | apply Kd.R_alloc | apply Kd.R_drewN | apply Kd.R_drew)); exact HO168.out) hb); have n2_ := Aside0.mk (Kd.R_below (by (with_reducible repeat (first | apply Kd.R_alloc | apply Kd.R_drewN | apply Kd.R_drew)); exact HO171.out) hb); have n3_ := Aside0.mk (Kd.R_lower (Kd.R_new' ho0 (Kd.R_lt (by (with_reducible repeat (first | apply Kd.R_alloc | apply Kd.R_drewN | apply Kd.R_drew)); exact HO165.out))) (below_size (by repeat (first | (with_reducible first | exact HB.out | apply below_alloc | apply pw_below_drewN | apply below_drew1) | exact HB.out)))); have n4_ := Aside0.mk (below_step (by repeat (first | (with_reducible first | exact HB.out | apply below_alloc | apply pw_below_drewN | apply below_drew1) | exact HB.out)) hb); clear HO165; clear HO168; clear HO171; clear HB; have HO165 := n0_; have HO168 := n1_; have HO171 := n2_; have HO175 := n3_; have HB := n4_; clear n0_ n1_ n2_ n3_ n4_; (try clear hb); (try clear hb2); (try clear hk); (try clear hi); (try clear ho0)) | ((with_reducible refine gate_callee (f := 13) rfl ?_); refine goesL_ (some 24) rfl rfl Try.func13 (by kernel_rfl) rfl #[.slice A0 l0.length c0] rfl (by (try simp only [List.map_toArray, List.map_cons, List.map_nil]); first | done | rfl | (simp only [List.length_drop, List.length_take]; rfl)) ?_; (with_reducible refine (frisketref06_Counts.calls k _ _ l0 t176 _ ?side1 ?side2 A11.out).mono ?_); (case side1 => repeat (first | exact (Kd.C_below HR0.out HB.out) | (with_reducible refine Kd.C_alloc ?_ _) | (with_reducible refine Kd.C_drewN ?_ _) | (with_reducible refine Kd.C_drew ?_))); (case side2 => exact HC0.out); rintro e w32 ⟨v177, rfl, ho0, hb⟩; refine ⟨_, rfl, ?_⟩; have n0_ := Aside0.mk (Kd.R_elder' (by (with_reducible repeat (first | apply Kd.R_alloc | apply Kd.R_drewN | apply Kd.R_drew)); exact HO165.out) (Kd.R_base ho0) hb); have n1_ := Aside0.mk (Kd.R_below (by (with_reducible repeat (first | apply Kd.R_alloc | apply Kd.R_drewN | apply Kd.R_drew)); exact HO168.out) hb); have n2_ := Aside0.mk (Kd.R_below (by (with_reducible repeat (first | apply Kd.R_alloc | apply Kd.R_drewN | apply Kd.R_drew)); exact HO171.out) hb); have n3_ := Aside0.mk (Kd.R_elder' (by (with_reducible repeat (first | apply Kd.R_alloc | apply Kd.R_drewN | apply Kd.R_drew)); exact HO175.out) (Kd.R_base ho0) hb); have n4_ := Aside0.mk (Kd.R_lower (Kd.R_new' (Kd.R_new' ho0 (Kd.R_lt (by (with_reducible repeat (first | apply Kd.R_alloc | apply Kd.R_drewN | apply Kd.R_drew)); exact HO165.out))) (Kd.R_lt (by (with_reducible repeat (first | apply Kd.R_alloc | apply Kd.R_drewN | apply Kd.R_drew)); exact HO175.out))) (below_size (by repeat (first | (with_reducible first | exact HB.out | apply below_alloc | apply pw_below_drewN | apply below_drew1) | exact HB.out)))); have n5_ := Aside0.mk (below_step (by repeat (first | (with_reducible first | exact HB.out | apply below_alloc | apply pw_below_drewN | apply below_drew1) | exact HB.out)) hb); clear HO165; clear HO168; clear HO171; clear HO175; clear HB; have HO165 := n0_; have HO168 := n1_; have HO171 := n2_; have HO175 := n3_; have HO178 := n4_; have HB := n5_; clear n0_ n1_ n2_ n3_ n4_ n5_; (try clear hb); (try clear hb2); (try clear hk); (try clear hi); (try clear ho0); obtain ⟨Ao33, co33, eo33⟩ := Kd.R_slice HO175.out; subst eo33; obtain ⟨Ao34, co34, eo34⟩ := Kd.R_slice HO178.out; subst eo34) | ((with_reducible refine gate_callee (f := 11) rfl ?_); refine goesL_ (some 25) rfl rfl Try.func11 (by kernel_rfl) rfl #[.slice Ao33 t173.length co33, .slice Ao34 t176.length co34] rfl (by (try simp only [List.map_toArray, List.map_cons, List.map_nil]); first | done | rfl | (simp only [List.length_drop, List.length_take]; rfl)) ?_; (with_reducible refine (frisketlaw06_same.calls k _ _ t173 _ _ t176 true _ ?side1 ?side2 ?side3 ?side4 A12.out).mono ?_); (case side1 => repeat (first | exact (Kd.R_reads' HO175.out).2.2 | (with_reducible refine Kd.C_alloc ?_ _) | (with_reducible refine Kd.C_drewN ?_ _) | (with_reducible refine Kd.C_drew ?_))); (case side2 => exact (Kd.R_reads' HO175.out).2.1); (case side3 => repeat (first | exact (Kd.R_reads' HO178.out).2.2 | (with_reducible refine Kd.C_alloc ?_ _) | (with_reducible refine Kd.C_drewN ?_ _) | (with_reducible refine Kd.C_drew ?_))); (case side4 => exact (Kd.R_reads' HO178.out).2.1); rintro e w' ⟨rfl, ⟨nd, rfl⟩⟩; refine ⟨_, rfl, ?_⟩; obtain ⟨Ao35, co35, eo35⟩ := Kd.R_slice HO165.out; subst eo35) | ((with_reducible refine gate_callee (f := 11) rfl ?_); refine goesL_ (some 28) rfl rfl Try.func11 (by kernel_rfl) rfl #[.slice A0 l0.length c0, .slice Ao35 y163.length co35] rfl (by (try simp only [List.map_toArray, List.map_cons, List.map_nil]); first | done | rfl | (simp only [List.length_drop, List.length_take]; rfl)) ?_; (with_reducible refine (frisketlaw06_same.calls k _ _ l0 _ _ y163 true _ ?side1 ?side2 ?side3 ?side4 A13.out).mono ?_); (case side1 => repeat (first | exact (Kd.C_below HR0.out (by repeat (first | (with_reducible first | exact HB.out | apply below_alloc | apply pw_below_drewN | apply below_drew1) | exact HB.out))) | (with_reducible refine Kd.C_alloc ?_ _) | (with_reducible refine Kd.C_drewN ?_ _) | (with_reducible refine Kd.C_drew ?_))); (case side2 => exact HC0.out); (case side3 => repeat (first | exact (Kd.R_reads' HO165.out).2.2 | (with_reducible refine Kd.C_alloc ?_ _) | (with_reducible refine Kd.C_drewN ?_ _) | (with_reducible refine Kd.C_drew ?_))); (case side4 => exact (Kd.R_reads' HO165.out).2.1); rintro e w' ⟨rfl, ⟨nd, rfl⟩⟩; refine ⟨_, rfl, ?_⟩) | ((with_reducible refine gate_callee (f := 7) rfl ?_); refine goesL_ (some 29) rfl rfl Try.func7 (by kernel_rfl) rfl #[] rfl (by (try simp only [List.map_toArray, List.map_cons, List.map_nil]); first | done | rfl | (simp only [List.length_drop, List.length_take]; rfl)) ?_; (with_reducible refine (frisketlaw06_alive.calls k  true _ A14.out).mono ?_); rintro e w36 ⟨rfl, hb⟩; refine ⟨_, rfl, ?_⟩; have n0_ := Aside0.mk (Kd.R_below (by (with_reducible repeat (first | apply Kd.R_alloc | apply Kd.R_drewN | apply Kd.R_drew)); exact HO165.out) hb); have n1_ := Aside0.mk (Kd.R_below (by (with_reducible repeat (first | apply Kd.R_alloc | apply Kd.R_drewN | apply Kd.R_drew)); exact HO168.out) hb); have n2_ := Aside0.mk (Kd.R_below (by (with_reducible repeat (first | apply Kd.R_alloc | apply Kd.R_drewN | apply Kd.R_drew)); exact HO171.out) hb); have n3_ := Aside0.mk (Kd.R_below (by (with_reducible repeat (first | apply Kd.R_alloc | apply Kd.R_drewN | apply Kd.R_drew)); exact HO175.out) hb); have n4_ := Aside0.mk (Kd.R_below (by (with_reducible repeat (first | apply Kd.R_alloc | apply Kd.R_drewN | apply Kd.R_drew)); exact HO178.out) hb); have n5_ := Aside0.mk (below_step (by repeat (first | (with_reducible first | exact HB.out | apply below_alloc | apply pw_below_drewN | apply below_drew1) | exact HB.out)) hb); clear HO165; clear HO168; clear HO171; clear HO175; clear HO178; clear HB; have HO165 := n0_; have HO168 := n1_; have HO171 := n2_; have HO175 := n3_; have HO178 := n4_; have HB := n5_; clear n0_ n1_ n2_ n3_ n4_ n5_; (try clear hb); (try clear hb2); (try clear hk); (try clear hi)) | (go_at_call 14; (with_reducible refine (breaks_At.calls _ _ l0 a1 t182 _ ?side1 ?side2 A19.out).mono ?_); (case side1 => repeat (first | exact (Kd.C_below HR0.out HB.out) | (with_reducible refine Kd.C_alloc ?_ _) | (with_reducible refine Kd.C_drewN ?_ _) | (with_reducible refine Kd.C_drew ?_))); (case side2 => exact HC0.out); rintro e w37 ⟨rfl, hb⟩; have n0_ := Aside0.mk (Kd.R_below (by (with_reducible repeat (first | apply Kd.R_alloc | apply Kd.R_drewN | apply Kd.R_drew)); exact HO165.out) hb); have n1_ := Aside0.mk (Kd.R_below (by (with_reducible repeat (first | apply Kd.R_alloc | apply Kd.R_drewN | apply Kd.R_drew)); exact HO168.out) hb); have n2_ := Aside0.mk (Kd.R_below (by (with_reducible repeat (first | apply Kd.R_alloc | apply Kd.R_drewN | apply Kd.R_drew)); exact HO171.out) hb); have n3_ := Aside0.mk (Kd.R_below (by (with_reducible repeat (first | apply Kd.R_alloc | apply Kd.R_drewN | apply Kd.R_drew)); exact HO175.out) hb); have n4_ := Aside0.mk (Kd.R_below (by (with_reducible repeat (first | apply Kd.R_alloc | apply Kd.R_drewN | apply Kd.R_drew)); exact HO178.out) hb); have n5_ := Aside0.mk (below_step (by repeat (first | (with_reducible first | exact HB.out | apply below_alloc | apply pw_below_drewN | apply below_drew1) | exact HB.out)) hb); clear HO165; clear HO168; clear HO171; clear HO175; clear HO178; clear HB; have HO165 := n0_; have HO168 := n1_; have HO171 := n2_; have HO175 := n3_; have HO178 := n4_; have HB := n5_; clear n0_ n1_ n2_ n3_ n4_ n5_; (try clear hb); (try clear hb2); (try clear hk); (try clear hi)) | (go_at_call 15; (with_reducible refine (frisketref06_At.calls k _ _ l0 a1 t183 _ ?side1 ?side2 A20.out).mono ?_); (case side1 => repeat (first | exact (Kd.C_below HR0.out HB.out) | (with_reducible refine Kd.C_alloc ?_ _) | (with_reducible refine Kd.C_drewN ?_ _) | (with_reducible refine Kd.C_drew ?_))); (case side2 => exact HC0.out); rintro e w38 ⟨rfl, hb⟩; have n0_ := Aside0.mk (Kd.R_below (by (with_reducible repeat (first | apply Kd.R_alloc | apply Kd.R_drewN | apply Kd.R_drew)); exact HO165.out) hb); have n1_ := Aside0.mk (Kd.R_below (by (with_reducible repeat (first | apply Kd.R_alloc | apply Kd.R_drewN | apply Kd.R_drew)); exact HO168.out) hb); have n2_ := Aside0.mk (Kd.R_below (by (with_reducible repeat (first | apply Kd.R_alloc | apply Kd.R_drewN | apply Kd.R_drew)); exact HO171.out) hb); have n3_ := Aside0.mk (Kd.R_below (by (with_reducible repeat (first | apply Kd.R_alloc | apply Kd.R_drewN | apply Kd.R_drew)); exact HO175.out) hb); have n4_ := Aside0.mk (Kd.R_below (by (with_reducible repeat (first | apply Kd.R_alloc | apply Kd.R_drewN | apply Kd.R_drew)); exact HO178.out) hb); have n5_ := Aside0.mk (below_step (by repeat (first | (with_reducible first | exact HB.out | apply below_alloc | apply pw_below_drewN | apply below_drew1) | exact HB.out)) hb); clear HO165; clear HO168; clear HO171; clear HO175; clear HO178; clear HB; have HO165 := n0_; have HO168 := n1_; have HO171 := n2_; have HO175 := n3_; have HO178 := n4_; have HB := n5_; clear n0_ n1_ n2_ n3_ n4_ n5_; (try clear hb); (try clear hb2); (try clear hk); (try clear hi)) | (go_at_call 16; (with_reducible refine (breaks_Next.calls k _ _ l0 a1 t184 _ ?side1 ?side2 A22.out).mono ?_); (case side1 => repeat (first | exact (Kd.C_below HR0.out HB.out) | (with_reducible refine Kd.C_alloc ?_ _) | (with_reducible refine Kd.C_drewN ?_ _) | (with_reducible refine Kd.C_drew ?_))); (case side2 => exact HC0.out); rintro e w39 ⟨rfl, hb⟩; have n0_ := Aside0.mk (Kd.R_below (by (with_reducible repeat (first | apply Kd.R_alloc | apply Kd.R_drewN | apply Kd.R_drew)); exact HO165.out) hb); have n1_ := Aside0.mk (Kd.R_below (by (with_reducible repeat (first | apply Kd.R_alloc | apply Kd.R_drewN | apply Kd.R_drew)); exact HO168.out) hb); have n2_ := Aside0.mk (Kd.R_below (by (with_reducible repeat (first | apply Kd.R_alloc | apply Kd.R_drewN | apply Kd.R_drew)); exact HO171.out) hb); have n3_ := Aside0.mk (Kd.R_below (by (with_reducible repeat (first | apply Kd.R_alloc | apply Kd.R_drewN | apply Kd.R_drew)); exact HO175.out) hb); have n4_ := Aside0.mk (Kd.R_below (by (with_reducible repeat (first | apply Kd.R_alloc | apply Kd.R_drewN | apply Kd.R_drew)); exact HO178.out) hb); have n5_ := Aside0.mk (below_step (by repeat (first | (with_reducible first | exact HB.out | apply below_alloc | apply pw_below_drewN | apply below_drew1) | exact HB.out)) hb); clear HO165; clear HO168; clear HO171; clear HO175; clear HO178; clear HB; have HO165 := n0_; have HO168 := n1_; have HO171 := n2_; have HO175 := n3_; have HO178 := n4_; have HB := n5_; clear n0_ n1_ n2_ n3_ n4_ n5_; (try clear hb); (try clear hb2); (try clear hk); (try clear hi)) | (go_at_call 17; (with_reducible refine (frisketref06_Next.calls k _ _ l0 a1 t185 _ ?side1 ?side2 A23.out).mono ?_); (case side1 => repeat (first | exact (Kd.C_below HR0.out HB.out) | (with_reducible refine Kd.C_alloc ?_ _) | (with_reducible refine Kd.C_drewN ?_ _) | (with_reducible refine Kd.C_drew ?_))); (case side2 => exact HC0.out); rintro e w40 ⟨rfl, hb⟩; have n0_ := Aside0.mk (Kd.R_below (by (with_reducible repeat (first | apply Kd.R_alloc | apply Kd.R_drewN | apply Kd.R_drew)); exact HO165.out) hb); have n1_ := Aside0.mk (Kd.R_below (by (with_reducible repeat (first | apply Kd.R_alloc | apply Kd.R_drewN | apply Kd.R_drew)); exact HO168.out) hb); have n2_ := Aside0.mk (Kd.R_below (by (with_reducible repeat (first | apply Kd.R_alloc | apply Kd.R_drewN | apply Kd.R_drew)); exact HO171.out) hb); have n3_ := Aside0.mk (Kd.R_below (by (with_reducible repeat (first | apply Kd.R_alloc | apply Kd.R_drewN | apply Kd.R_drew)); exact HO175.out) hb); have n4_ := Aside0.mk (Kd.R_below (by (with_reducible repeat (first | apply Kd.R_alloc | apply Kd.R_drewN | apply Kd.R_drew)); exact HO178.out) hb); have n5_ := Aside0.mk (below_step (by repeat (first | (with_reducible first | exact HB.out | apply below_alloc | apply pw_below_drewN | apply below_drew1) | exact HB.out)) hb); clear HO165; clear HO168; clear HO171; clear HO175; clear HO178; clear HB; have HO165 := n0_; have HO168 := n1_; have HO171 := n2_; have HO175 := n3_; have HO178 := n4_; have HB := n5_; clear n0_ n1_ n2_ n3_ n4_ n5_; (try clear hb); (try clear hb2); (try clear hk); (try clear hi)))
                go_ret
                exact ⟨by first | rfl | (simp [errW_none, errW_some] <;> rfl) | (simp [*, errW_none, errW_some] <;> rfl), by repeat (first | (with_reducible first | exact HB.out | apply below_alloc | apply pw_below_drewN | apply below_drew1) | exact HB.out)⟩
              · rw [if_neg c21] at H
                have c21b0 : (t182 == t183) = false := beq_eq_false_iff_ne.mpr c21
                have c21b1 : (t182 != t183) = true := bne_iff_ne.mpr c21
                exact af_absurd HRT.out H (by repeat (first | exact AF.none | exact AF.false | refine AF.ite ?_ ?_ | refine AF.bind (fun _ => ?_)))
            · replace c18 := Bool.eq_false_iff.mpr c18
              subst c18
              have H1 : (some false) = some r := by rw [if_neg (show ¬ (false = true) by decide)] at H; exact H
              clear H
              have H := H1
              clear H1
              exact af_absurd HRT.out H (by repeat (first | exact AF.none | exact AF.false | refine AF.ite ?_ ?_ | refine AF.bind (fun _ => ?_)))
          · replace c17 := Bool.eq_false_iff.mpr c17
            subst c17
            have H1 : (some false) = some r := by rw [if_neg (show ¬ (false = true) by decide)] at H; exact H
            clear H
            have H := H1
            clear H1
            exact af_absurd HRT.out H (by repeat (first | exact AF.none | exact AF.false | refine AF.ite ?_ ?_ | refine AF.bind (fun _ => ?_)))
        · replace c16 := Bool.eq_false_iff.mpr c16
          subst c16
          have H1 : (some false) = some r := by rw [if_neg (show ¬ (false = true) by decide)] at H; exact H
          clear H
          have H := H1
          clear H1
          exact af_absurd HRT.out H (by repeat (first | exact AF.none | exact AF.false | refine AF.ite ?_ ?_ | refine AF.bind (fun _ => ?_)))
      · replace c15 := Bool.eq_false_iff.mpr c15
        subst c15
        have H1 : (some false) = some r := by rw [if_neg (show ¬ (false = true) by decide)] at H; exact H
        clear H
        have H := H1
        clear H1
        exact af_absurd HRT.out H (by repeat (first | exact AF.none | exact AF.false | refine AF.ite ?_ ?_ | refine AF.bind (fun _ => ?_)))
    · rw [if_neg c6] at H
      exact absurd H (by simp)

end Go.Proofs.Ytbcflgiapiclgaa.P
