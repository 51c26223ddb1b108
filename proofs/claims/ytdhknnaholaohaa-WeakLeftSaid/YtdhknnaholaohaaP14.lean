/- Written by wip/tools/gprint.py of this repo over the translation: Lean functions that answer as the Go functions named below do, and the proof of it; the conditions stand in each theorem. -/
import Derived.Test.YtdhknnaholaohaaP0
import Derived.Test.YtdhknnaholaohaaP11
import Derived.Test.YtdhknnaholaohaaP12
import Derived.Test.YtdhknnaholaohaaP13
import Derived.Test.YtdhknnaholaohaaHRule
namespace Go.Proofs.Ytdhknnaholaohaa.P
open Go.RowKit Go.Proofs.YtdhknnaholaohaaW.PrintWords Go.Proofs.YtdhknnaholaohaaW.PrintLast Go.Proofs.YtdhknnaholaohaaW.PrintMore
attribute [local go_sem] max2_int min2_int max_two min_two max_three min_three max_four min_four   -- for this text's walks alone
set_option linter.unusedVariables false
set_option linter.unusedSimpArgs false

/-! ### frisketlaw10_WeakLeft: function 3 -/
mutual
def frisketlaw10_WeakLeft.j0 : Nat → List Int → Int → List Int → Bool → Option (Bool)
  | 0, _, _, _, _ => none
  | k + 1, x0, x1, x5, x31 => if x31 = true then (some false) else (frisketlaw10_WeakLeft.l0 k x0 x1 x5 0)
def frisketlaw10_WeakLeft.l0 : Nat → List Int → Int → List Int → Int → Option (Bool)
  | 0, _, _, _, _ => none
  | k + 1, x0, x1, x5, x7 => if x7 < (x0.length : Int) then (if 0 ≤ x7 then (if x7 < (x5.length : Int) then (if (rd x5 x7) = 8 then (frisketlaw10_WeakLeft.j2 k x0 x1 x5 x7 (rd x0 x7) true) else (if (rd x5 x7) = 2 then (frisketlaw10_WeakLeft.j2 k x0 x1 x5 x7 (rd x0 x7) true) else (if (rd x5 x7) = 4 then (frisketlaw10_WeakLeft.j2 k x0 x1 x5 x7 (rd x0 x7) true) else (if (rd x5 x7) = 5 then (frisketlaw10_WeakLeft.j2 k x0 x1 x5 x7 (rd x0 x7) true) else (frisketlaw10_WeakLeft.j2 k x0 x1 x5 x7 (rd x0 x7) ((rd x5 x7) == 7)))))) else (none)) else (none)) else ((frisketlaw10_side.f x1).bind fun t176 => ((weak_All.f x5 t176).bind fun bt177 => ((frisketlaw10_alive.f k).bind fun t181 => (if t181 = true then (if bt177.2 = 0 then ((frisketlaw08_Same.f k x5 bt177.1).bind fun t182 => (some t182)) else (some false)) else (some false)))))
def frisketlaw10_WeakLeft.j2 : Nat → List Int → Int → List Int → Int → Int → Bool → Option (Bool)
  | 0, _, _, _, _, _, _ => none
  | k + 1, x0, x1, x5, x7, x8, x74 => if x74 = true then (some false) else (if x8 = 8 then (if x8 = 2 then (if 0 ≤ x7 then (if x7 < (x5.length : Int) then (if (rd x5 x7) = 1 then (frisketlaw10_WeakLeft.l0 k x0 x1 x5 (wrap64 (x7 + 1))) else (some false)) else (none)) else (none)) else (frisketlaw10_WeakLeft.l0 k x0 x1 x5 (wrap64 (x7 + 1)))) else (if x8 = 3 then (if x8 = 2 then (if 0 ≤ x7 then (if x7 < (x5.length : Int) then (if (rd x5 x7) = 1 then (frisketlaw10_WeakLeft.l0 k x0 x1 x5 (wrap64 (x7 + 1))) else (some false)) else (none)) else (none)) else (frisketlaw10_WeakLeft.l0 k x0 x1 x5 (wrap64 (x7 + 1)))) else (if x8 = 4 then (if x8 = 2 then (if 0 ≤ x7 then (if x7 < (x5.length : Int) then (if (rd x5 x7) = 1 then (frisketlaw10_WeakLeft.l0 k x0 x1 x5 (wrap64 (x7 + 1))) else (some false)) else (none)) else (none)) else (frisketlaw10_WeakLeft.l0 k x0 x1 x5 (wrap64 (x7 + 1)))) else (if x8 = 5 then (if x8 = 2 then (if 0 ≤ x7 then (if x7 < (x5.length : Int) then (if (rd x5 x7) = 1 then (frisketlaw10_WeakLeft.l0 k x0 x1 x5 (wrap64 (x7 + 1))) else (some false)) else (none)) else (none)) else (frisketlaw10_WeakLeft.l0 k x0 x1 x5 (wrap64 (x7 + 1)))) else (if x8 = 2 then (if 0 ≤ x7 then (if x7 < (x5.length : Int) then (if (rd x5 x7) = 1 then (frisketlaw10_WeakLeft.l0 k x0 x1 x5 (wrap64 (x7 + 1))) else (some false)) else (none)) else (none)) else (if x8 = 7 then (frisketlaw10_WeakLeft.l0 k x0 x1 x5 (wrap64 (x7 + 1))) else (if 0 ≤ x7 then (if x7 < (x5.length : Int) then (if (rd x5 x7) = x8 then (frisketlaw10_WeakLeft.l0 k x0 x1 x5 (wrap64 (x7 + 1))) else (some false)) else (none)) else (none))))))))
end
def frisketlaw10_WeakLeft.f (k : Nat) (l0 : List Int) (a1 : Int) : Option (Bool) := if (l0.length : Int) > 150 then ((frisketlaw10_alive.f k).bind fun t158 => (some t158)) else ((frisketlaw10_side.f a1).bind fun t159 => ((weak_All.f l0 t159).bind fun bt160 => (if bt160.2 = 0 then (frisketlaw10_WeakLeft.j0 k l0 a1 bt160.1 ((bt160.1.length : Int) != (l0.length : Int))) else (frisketlaw10_WeakLeft.j0 k l0 a1 bt160.1 true))))
theorem frisketlaw10_WeakLeft.mono_l : ∀ k, (∀ y0 y1 y2 y3, LeO (frisketlaw10_WeakLeft.j0 k y0 y1 y2 y3) (frisketlaw10_WeakLeft.j0 (k + 1) y0 y1 y2 y3)) ∧ (∀ y0 y1 y2 y3, LeO (frisketlaw10_WeakLeft.l0 k y0 y1 y2 y3) (frisketlaw10_WeakLeft.l0 (k + 1) y0 y1 y2 y3)) ∧ (∀ y0 y1 y2 y3 y4 y5, LeO (frisketlaw10_WeakLeft.j2 k y0 y1 y2 y3 y4 y5) (frisketlaw10_WeakLeft.j2 (k + 1) y0 y1 y2 y3 y4 y5))
  | 0 => ⟨fun _ _ _ _ r h => by simp [frisketlaw10_WeakLeft.j0] at h, fun _ _ _ _ r h => by simp [frisketlaw10_WeakLeft.l0] at h, fun _ _ _ _ _ _ r h => by simp [frisketlaw10_WeakLeft.j2] at h⟩
  | k + 1 => by
    obtain ⟨ih0, ih1, ih2⟩ := frisketlaw10_WeakLeft.mono_l k
    refine ⟨?_, ?_, ?_⟩
    · intro y0 y1 y2 y3
      unfold frisketlaw10_WeakLeft.j0
      repeat' first
      | (with_reducible exact ih0 _ _ _ _)
      | (with_reducible exact ih1 _ _ _ _)
      | (with_reducible exact ih2 _ _ _ _ _ _)
      | (with_reducible exact frisketlaw08_Same.mono _ _ _)
      | (with_reducible exact frisketlaw10_alive.mono _)
      | (with_reducible exact LeO.refl _)
      | (with_reducible exact LeO.none _)
      | (with_reducible refine LeO.ite ?_ ?_)
      | (with_reducible refine LeO.bind ?_ (fun _ => ?_))
      | exact ih0 _ _ _ _
      | exact ih1 _ _ _ _
      | exact ih2 _ _ _ _ _ _
      | exact frisketlaw08_Same.mono _ _ _
      | exact frisketlaw10_alive.mono _
      | exact LeO.none _
      | refine LeO.ite ?_ ?_
      | refine LeO.bind ?_ (fun _ => ?_)
    · intro y0 y1 y2 y3
      unfold frisketlaw10_WeakLeft.l0
      repeat' first
      | (with_reducible exact ih0 _ _ _ _)
      | (with_reducible exact ih1 _ _ _ _)
      | (with_reducible exact ih2 _ _ _ _ _ _)
      | (with_reducible exact frisketlaw08_Same.mono _ _ _)
      | (with_reducible exact frisketlaw10_alive.mono _)
      | (with_reducible exact LeO.refl _)
      | (with_reducible exact LeO.none _)
      | (with_reducible refine LeO.ite ?_ ?_)
      | (with_reducible refine LeO.bind ?_ (fun _ => ?_))
      | exact ih0 _ _ _ _
      | exact ih1 _ _ _ _
      | exact ih2 _ _ _ _ _ _
      | exact frisketlaw08_Same.mono _ _ _
      | exact frisketlaw10_alive.mono _
      | exact LeO.none _
      | refine LeO.ite ?_ ?_
      | refine LeO.bind ?_ (fun _ => ?_)
    · intro y0 y1 y2 y3 y4 y5
      unfold frisketlaw10_WeakLeft.j2
      repeat' first
      | (with_reducible exact ih0 _ _ _ _)
      | (with_reducible exact ih1 _ _ _ _)
      | (with_reducible exact ih2 _ _ _ _ _ _)
      | (with_reducible exact frisketlaw08_Same.mono _ _ _)
      | (with_reducible exact frisketlaw10_alive.mono _)
      | (with_reducible exact LeO.refl _)
      | (with_reducible exact LeO.none _)
      | (with_reducible refine LeO.ite ?_ ?_)
      | (with_reducible refine LeO.bind ?_ (fun _ => ?_))
      | exact ih0 _ _ _ _
      | exact ih1 _ _ _ _
      | exact ih2 _ _ _ _ _ _
      | exact frisketlaw08_Same.mono _ _ _
      | exact frisketlaw10_alive.mono _
      | exact LeO.none _
      | refine LeO.ite ?_ ?_
      | refine LeO.bind ?_ (fun _ => ?_)
theorem frisketlaw10_WeakLeft.mono : ∀ a0 a1 k, LeO (frisketlaw10_WeakLeft.f k a0 a1) (frisketlaw10_WeakLeft.f (k + 1) a0 a1) := by
  intro a0 a1 k
  obtain ⟨ih0, ih1, ih2⟩ := frisketlaw10_WeakLeft.mono_l k
  unfold frisketlaw10_WeakLeft.f
  repeat' first
      | (with_reducible exact ih0 _ _ _ _)
      | (with_reducible exact ih1 _ _ _ _)
      | (with_reducible exact ih2 _ _ _ _ _ _)
      | (with_reducible exact frisketlaw08_Same.mono _ _ _)
      | (with_reducible exact frisketlaw10_alive.mono _)
      | (with_reducible exact LeO.refl _)
      | (with_reducible exact LeO.none _)
      | (with_reducible refine LeO.ite ?_ ?_)
      | (with_reducible refine LeO.bind ?_ (fun _ => ?_))
      | exact ih0 _ _ _ _
      | exact ih1 _ _ _ _
      | exact ih2 _ _ _ _ _ _
      | exact frisketlaw08_Same.mono _ _ _
      | exact frisketlaw10_alive.mono _
      | exact LeO.none _
      | refine LeO.ite ?_ ?_
      | refine LeO.bind ?_ (fun _ => ?_)
set_option maxHeartbeats 8000000 in
set_option maxRecDepth 100000 in
theorem frisketlaw10_WeakLeft.calls (k : Nat) (A0 : Option Addr) (c0 : Nat) (l0 : List Int) (a1 : Int) (r : Bool) (w : World) (hr0 : Kd.C (Kd.int .i64) w A0 l0.length l0) (hc0 : l0.length ≤ c0) (hrt : r = true) (h : frisketlaw10_WeakLeft.f k l0 a1 = some r) :
    Calls Try.prog 3 #[.slice A0 l0.length c0, .int .i64 a1] w fun e w' => e = .returned (.bool r) ∧ Below w.heap.size w w' := by
  have HR0 := Aside0.mk hr0
  have HC0 := Aside0.mk hc0
  clear hr0 hc0
  have HB := Aside0.mk (Below.refl w.heap.size w)
  have HRT := Aside0.mk hrt
  clear hrt
  have H : (if (l0.length : Int) > 150 then ((frisketlaw10_alive.f k).bind fun t158 => (some t158)) else ((frisketlaw10_side.f a1).bind fun t159 => ((weak_All.f l0 t159).bind fun bt160 => (if bt160.2 = 0 then (frisketlaw10_WeakLeft.j0 k l0 a1 bt160.1 ((bt160.1.length : Int) != (l0.length : Int))) else (frisketlaw10_WeakLeft.j0 k l0 a1 bt160.1 true))))) = some r := h
  clear h
  by_cases c3 : (l0.length : Int) > 150
  · rw [if_pos c3] at H
    have c3b0 : decide (150 < (l0.length : Int)) = true := decide_eq_true c3
    have c3b1 : decide (150 < l0.length) = true := decide_eq_true (by omega)
    clear c3
    replace H := Option.bind_eq_some_iff.mp H
    obtain ⟨t158, A40, H⟩ := H
    replace H : (some t158) = some r := H
    have A4 := Aside0.mk A40
    clear A40
    obtain rfl := Option.some.inj H
    go_enter Try.func3, Try.ntmps3
    go_wp2_with (first | ((with_reducible refine gate_callee (f := 7) rfl ?_); refine goesL_ (some 15) rfl rfl Try.func7 (by kernel_rfl) rfl #[] rfl (by (try simp only [List.map_toArray, List.map_cons, List.map_nil]); first | done | rfl | (simp only [List.length_drop, List.length_take]; rfl)) ?_; (with_reducible refine (frisketlaw10_alive.calls k  t158 _ A4.out).mono ?_); rintro e w5 ⟨rfl, hb⟩; refine ⟨_, rfl, ?_⟩; have n0_ := Aside0.mk (below_step (by repeat (first | (with_reducible first | exact HB.out | apply below_alloc | apply pw_below_drewN | apply below_drew1) | exact HB.out)) hb); clear HB; have HB := n0_; clear n0_; (try clear hb); (try clear hb2); (try clear hk); (try clear hi)))
    go_ret
    exact ⟨by first | rfl | (simp [errW_none, errW_some] <;> rfl) | (simp [*, errW_none, errW_some] <;> rfl), by repeat (first | (with_reducible first | exact HB.out | apply below_alloc | apply pw_below_drewN | apply below_drew1) | exact HB.out)⟩
  · rw [if_neg c3] at H
    have c3b0 : decide (150 < (l0.length : Int)) = false := decide_eq_false c3
    have c3b1 : decide (150 < l0.length) = false := decide_eq_false (by omega)
    clear c3
    replace H := Option.bind_eq_some_iff.mp H
    obtain ⟨t159, A60, H⟩ := H
    replace H : ((weak_All.f l0 t159).bind fun bt160 => (if bt160.2 = 0 then (frisketlaw10_WeakLeft.j0 k l0 a1 bt160.1 ((bt160.1.length : Int) != (l0.length : Int))) else (frisketlaw10_WeakLeft.j0 k l0 a1 bt160.1 true))) = some r := H
    have A6 := Aside0.mk A60
    clear A60
    replace H := Option.bind_eq_some_iff.mp H
    obtain ⟨⟨t160, t161⟩, A70, H⟩ := H
    replace H : (if t161 = 0 then (frisketlaw10_WeakLeft.j0 k l0 a1 t160 ((t160.length : Int) != (l0.length : Int))) else (frisketlaw10_WeakLeft.j0 k l0 a1 t160 true)) = some r := H
    have A7 := Aside0.mk A70
    clear A70
    have HC8 := Aside0.mk H
    clear H
    go_enter Try.func3, Try.ntmps3
    go_upto_region 4 with (first | ((with_reducible refine gate_callee (f := 9) rfl ?_); refine goesL_ (some 19) rfl rfl Try.func9 (by kernel_rfl) rfl #[.int .i64 a1] rfl (by (try simp only [List.map_toArray, List.map_cons, List.map_nil]); first | done | rfl | (simp only [List.length_drop, List.length_take]; rfl)) ?_; (with_reducible refine (frisketlaw10_side.calls a1 t159 _ A6.out).mono ?_); rintro e w' ⟨rfl, ⟨nd, rfl⟩⟩; refine ⟨_, rfl, ?_⟩) | ((with_reducible refine gate_callee (f := 8) rfl ?_); refine goesL_ (some 20) rfl rfl Try.func8 (by kernel_rfl) rfl #[.slice A0 l0.length c0, .int .i64 t159] rfl (by (try simp only [List.map_toArray, List.map_cons, List.map_nil]); first | done | rfl | (simp only [List.length_drop, List.length_take]; rfl)) ?_; (with_reducible refine (weak_All.calls _ _ l0 t159 t160 t161 _ ?side1 ?side2 A7.out).mono ?_); (case side1 => repeat (first | exact HR0.out | (with_reducible refine Kd.C_alloc ?_ _) | (with_reducible refine Kd.C_drewN ?_ _) | (with_reducible refine Kd.C_drew ?_))); (case side2 => exact HC0.out); rintro e w9 ⟨v162, rfl, ho0, hb⟩; refine ⟨_, rfl, ?_⟩; have n0_ := Aside0.mk (Kd.R_lower ho0 (below_size (by repeat (first | (with_reducible first | exact HB.out | apply below_alloc | apply pw_below_drewN | apply below_drew1) | exact HB.out)))); have n1_ := Aside0.mk (below_step (by repeat (first | (with_reducible first | exact HB.out | apply below_alloc | apply pw_below_drewN | apply below_drew1) | exact HB.out)) hb); clear HB; have HO163 := n0_; have HB := n1_; clear n0_ n1_; (try clear hb); (try clear hb2); (try clear hk); (try clear hi); (try clear ho0)))
    (try simp only [Act.put, List.setIfInBounds_toArray, List.set_cons_zero, List.set_cons_succ])
    go_cut [31] (fun v31 wc => ∃ (kq : Nat) (x31_7 : Bool), v31 = .bool x31_7 ∧ Aside0 (frisketlaw10_WeakLeft.j0 kq l0 a1 t160 x31_7 = some r) ∧ Aside0 (kq ≤ k) ∧ Aside0 (Kd.R (Kd.int .i64) 27 wc w.heap.size (fun _ => True) v162 t160) ∧ Aside0 (Below w.heap.size w wc))
    case first =>
      have H := HC8.out
      clear HC8
      by_cases c10 : t161 = 0
      · rw [if_pos c10] at H
        have c10b0 : (t161 == 0) = true := beq_iff_eq.mpr c10
        have c10b1 : (t161 != 0) = false := bne_eq_false_iff_eq.mpr c10
        clear c10
        (first | rw [c10b0] | (simp only [i64_w, i32_w]; rw [c10b0]) | skip)
        have H' := Aside0.mk H
        clear H
        obtain ⟨Ao11, co11, eo11⟩ := Kd.R_slice HO163.out
        subst eo11
        go_wp2
        go_meet
        case rel => exact ⟨_, (((t160.length : Int) != (l0.length : Int))), (by first | rfl | (simp; done) | (simp [*]; done)), H', ⟨by first | omega | exact Nat.le_refl _⟩, ⟨by (with_reducible repeat (first | apply Kd.R_alloc | apply Kd.R_drewN | apply Kd.R_drew)); exact HO163.out⟩, ⟨by repeat (first | (with_reducible first | exact HB.out | apply below_alloc | apply pw_below_drewN | apply below_drew1) | exact HB.out)⟩⟩
      · rw [if_neg c10] at H
        have c10b0 : (t161 == 0) = false := beq_eq_false_iff_ne.mpr c10
        have c10b1 : (t161 != 0) = true := bne_iff_ne.mpr c10
        (first | rw [c10b0] | (simp only [i64_w, i32_w]; rw [c10b0]) | skip)
        have H' := Aside0.mk H
        clear H
        go_wp2
        go_meet
        case rel => exact ⟨_, (true), (by first | rfl | (simp; done) | (simp [*]; done)), H', ⟨by first | omega | exact Nat.le_refl _⟩, ⟨by (with_reducible repeat (first | apply Kd.R_alloc | apply Kd.R_drewN | apply Kd.R_drew)); exact HO163.out⟩, ⟨by repeat (first | (with_reducible first | exact HB.out | apply below_alloc | apply pw_below_drewN | apply below_drew1) | exact HB.out)⟩⟩
    case rest =>
      clear HC8
      try clear c1
      try clear p2
      try clear c3
      try clear c3b0
      try clear c3b1
      try clear c7
      try clear c8
      try clear c9
      try clear c10
      try clear c10b0
      try clear c10b1
      obtain ⟨kq, x31_7, rfl, HA, HJ7, HO_5, HB⟩ := hcut
      cases kq with
      | zero => exact absurd HA.out (by simp [frisketlaw10_WeakLeft.j0])
      | succ kj7 =>
        have H := HA.out
        clear HA
        simp only [frisketlaw10_WeakLeft.j0] at H
        by_cases c12 : x31_7 = true
        · subst c12
          have H1 : (some false) = some r := by rw [if_pos rfl] at H; exact H
          clear H
          have H := H1
          clear H1
          exact af_absurd HRT.out H (by repeat (first | exact AF.none | exact AF.false | refine AF.ite ?_ ?_ | refine AF.bind (fun _ => ?_)))
        · replace c12 := Bool.eq_false_iff.mpr c12
          subst c12
          have H1 : (frisketlaw10_WeakLeft.l0 kj7 l0 a1 t160 0) = some r := by rw [if_neg (show ¬ (false = true) by decide)] at H; exact H
          clear H
          have H := H1
          clear H1
          have H' := Aside0.mk H
          clear H
          go_wp2
          go_loopg [7] kj7 (fun kq v7 w' => ∃ (x7_2 : Int), v7 = .int .i64 x7_2 ∧ Aside0 (frisketlaw10_WeakLeft.l0 kq l0 a1 t160 x7_2 = some r) ∧ Aside0 (kq ≤ kj7) ∧ Aside0 (Kd.R (Kd.int .i64) 27 w' w.heap.size (fun _ => True) v162 t160) ∧ Aside0 (Below w.heap.size w w'))
          case atStart => exact ⟨(0), (by first | rfl | (simp; done) | (simp [*]; done)), H', ⟨Nat.le_refl _⟩, ⟨by (with_reducible repeat (first | apply Kd.R_alloc | apply Kd.R_drewN | apply Kd.R_drew)); exact HO_5.out⟩, ⟨by repeat (first | (with_reducible first | exact HB.out | apply below_alloc | apply pw_below_drewN | apply below_drew1) | exact HB.out)⟩⟩
          case round =>
            clear H'
            try clear c1
            try clear p2
            try clear c3
            try clear c3b0
            try clear c3b1
            try clear c7
            try clear c8
            try clear c9
            try clear c10
            try clear c10b0
            try clear c10b1
            try clear c12
            try clear p2
            obtain ⟨x7_2, rfl, HA, HK2, HO_5, HB⟩ := hrel
            cases gk with
            | zero => exact absurd HA.out (by simp [frisketlaw10_WeakLeft.l0])
            | succ k2 =>
              have H := HA.out
              clear HA
              simp only [frisketlaw10_WeakLeft.l0] at H
              by_cases c13 : x7_2 < (l0.length : Int)
              · rw [if_pos c13] at H
                have c13b0 : decide (x7_2 < (l0.length : Int)) = true := decide_eq_true c13
                clear c13
                by_cases c14 : 0 ≤ x7_2
                · rw [if_pos c14] at H
                  have c14b0 : decide (0 ≤ x7_2) = true := decide_eq_true c14
                  clear c14
                  have HC15 := Aside0.mk H
                  clear H
                  have p164 : 0 ≤ (x7_2 : Int) := of_decide_eq_true (by first | (with_reducible assumption) | assumption)
                  have q164 : x7_2 < (l0.length : Int) := of_decide_eq_true (by first | (with_reducible assumption) | assumption)
                  obtain ⟨ad164, e164, hx164_0⟩ := Kd.at_int HR0.out x7_2 p164 q164
                  cases e164
                  replace hx164_0 := (HB.out.cell (World.block_lt_of_cell? w _ hx164_0)).trans hx164_0
                  replace p164 := eq_true p164
                  replace q164 := eq_true q164
                  go_upto_region 10 with (fail)
                  go_cut [74] (fun v74 wc => ∃ (kq : Nat) (x74_14 : Bool), v74 = .bool x74_14 ∧ Aside0 (frisketlaw10_WeakLeft.j2 kq l0 a1 t160 x7_2 (rd l0 x7_2) x74_14 = some r) ∧ Aside0 (kq ≤ k2) ∧ Aside0 (Kd.R (Kd.int .i64) 27 wc w.heap.size (fun _ => True) v162 t160) ∧ Aside0 (Below w.heap.size w wc))
                  case first =>
                    have H := HC15.out
                    clear HC15
                    by_cases c16 : x7_2 < (t160.length : Int)
                    · rw [if_pos c16] at H
                      have c16b0 : decide (x7_2 < (t160.length : Int)) = true := decide_eq_true c16
                      clear c16
                      (first | rw [c16b0] | (simp only [i64_w, i32_w]; rw [c16b0]) | skip)
                      by_cases c17 : (rd t160 x7_2) = 8
                      · rw [if_pos c17] at H
                        have c17b0 : ((rd t160 x7_2) == 8) = true := beq_iff_eq.mpr c17
                        have c17b1 : ((rd t160 x7_2) != 8) = false := bne_eq_false_iff_eq.mpr c17
                        clear c17
                        have H' := Aside0.mk H
                        clear H
                        obtain ⟨Ao18, co18, eo18⟩ := Kd.R_slice HO_5.out
                        subst eo18
                        have p165 : 0 ≤ (x7_2 : Int) := of_decide_eq_true (by first | (with_reducible assumption) | assumption)
                        have q165 : x7_2 < (t160.length : Int) := of_decide_eq_true (by first | (with_reducible assumption) | assumption)
                        obtain ⟨ad165, e165, hx165_0⟩ := Kd.at_int (Kd.R_reads' HO_5.out).2.2 x7_2 p165 q165
                        cases e165
                        replace p165 := eq_true p165
                        replace q165 := eq_true q165
                        go_wp2
                        go_meet
                        case rel => exact ⟨_, (true), (by first | rfl | (simp; done) | (simp [*]; done)), H', ⟨by have := HJ7.out; have := HK2.out; first | omega | exact Nat.le_refl _⟩, ⟨by (with_reducible repeat (first | apply Kd.R_alloc | apply Kd.R_drewN | apply Kd.R_drew)); exact HO_5.out⟩, ⟨by repeat (first | (with_reducible first | exact HB.out | apply below_alloc | apply pw_below_drewN | apply below_drew1) | exact HB.out)⟩⟩
                      · rw [if_neg c17] at H
                        have c17b0 : ((rd t160 x7_2) == 8) = false := beq_eq_false_iff_ne.mpr c17
                        have c17b1 : ((rd t160 x7_2) != 8) = true := bne_iff_ne.mpr c17
                        by_cases c19 : (rd t160 x7_2) = 2
                        · rw [if_pos c19] at H
                          have c19b0 : ((rd t160 x7_2) == 2) = true := beq_iff_eq.mpr c19
                          have c19b1 : ((rd t160 x7_2) != 2) = false := bne_eq_false_iff_eq.mpr c19
                          clear c19
                          have H' := Aside0.mk H
                          clear H
                          obtain ⟨Ao20, co20, eo20⟩ := Kd.R_slice HO_5.out
                          subst eo20
                          have p165 : 0 ≤ (x7_2 : Int) := of_decide_eq_true (by first | (with_reducible assumption) | assumption)
                          have q165 : x7_2 < (t160.length : Int) := of_decide_eq_true (by first | (with_reducible assumption) | assumption)
                          obtain ⟨ad165, e165, hx165_0⟩ := Kd.at_int (Kd.R_reads' HO_5.out).2.2 x7_2 p165 q165
                          cases e165
                          replace p165 := eq_true p165
                          replace q165 := eq_true q165
                          have p166 : 0 ≤ (x7_2 : Int) := of_decide_eq_true (by first | (with_reducible assumption) | assumption)
                          have q166 : x7_2 < (t160.length : Int) := of_decide_eq_true (by first | (with_reducible assumption) | assumption)
                          obtain ⟨ad166, e166, hx166_0⟩ := Kd.at_int (Kd.R_reads' HO_5.out).2.2 x7_2 p166 q166
                          obtain rfl : ad165 = ad166 := (by injection e166)
                          replace p166 := eq_true p166
                          replace q166 := eq_true q166
                          go_wp2
                          go_meet
                          case rel => exact ⟨_, (true), (by first | rfl | (simp; done) | (simp [*]; done)), H', ⟨by have := HJ7.out; have := HK2.out; first | omega | exact Nat.le_refl _⟩, ⟨by (with_reducible repeat (first | apply Kd.R_alloc | apply Kd.R_drewN | apply Kd.R_drew)); exact HO_5.out⟩, ⟨by repeat (first | (with_reducible first | exact HB.out | apply below_alloc | apply pw_below_drewN | apply below_drew1) | exact HB.out)⟩⟩
                        · rw [if_neg c19] at H
                          have c19b0 : ((rd t160 x7_2) == 2) = false := beq_eq_false_iff_ne.mpr c19
                          have c19b1 : ((rd t160 x7_2) != 2) = true := bne_iff_ne.mpr c19
                          by_cases c21 : (rd t160 x7_2) = 4
                          · rw [if_pos c21] at H
                            have c21b0 : ((rd t160 x7_2) == 4) = true := beq_iff_eq.mpr c21
                            have c21b1 : ((rd t160 x7_2) != 4) = false := bne_eq_false_iff_eq.mpr c21
                            clear c21
                            have H' := Aside0.mk H
                            clear H
                            obtain ⟨Ao22, co22, eo22⟩ := Kd.R_slice HO_5.out
                            subst eo22
                            have p165 : 0 ≤ (x7_2 : Int) := of_decide_eq_true (by first | (with_reducible assumption) | assumption)
                            have q165 : x7_2 < (t160.length : Int) := of_decide_eq_true (by first | (with_reducible assumption) | assumption)
                            obtain ⟨ad165, e165, hx165_0⟩ := Kd.at_int (Kd.R_reads' HO_5.out).2.2 x7_2 p165 q165
                            cases e165
                            replace p165 := eq_true p165
                            replace q165 := eq_true q165
                            have p166 : 0 ≤ (x7_2 : Int) := of_decide_eq_true (by first | (with_reducible assumption) | assumption)
                            have q166 : x7_2 < (t160.length : Int) := of_decide_eq_true (by first | (with_reducible assumption) | assumption)
                            obtain ⟨ad166, e166, hx166_0⟩ := Kd.at_int (Kd.R_reads' HO_5.out).2.2 x7_2 p166 q166
                            obtain rfl : ad165 = ad166 := (by injection e166)
                            replace p166 := eq_true p166
                            replace q166 := eq_true q166
                            have p167 : 0 ≤ (x7_2 : Int) := of_decide_eq_true (by first | (with_reducible assumption) | assumption)
                            have q167 : x7_2 < (t160.length : Int) := of_decide_eq_true (by first | (with_reducible assumption) | assumption)
                            obtain ⟨ad167, e167, hx167_0⟩ := Kd.at_int (Kd.R_reads' HO_5.out).2.2 x7_2 p167 q167
                            obtain rfl : ad165 = ad167 := (by injection e167)
                            replace p167 := eq_true p167
                            replace q167 := eq_true q167
                            go_wp2
                            go_meet
                            case rel => exact ⟨_, (true), (by first | rfl | (simp; done) | (simp [*]; done)), H', ⟨by have := HJ7.out; have := HK2.out; first | omega | exact Nat.le_refl _⟩, ⟨by (with_reducible repeat (first | apply Kd.R_alloc | apply Kd.R_drewN | apply Kd.R_drew)); exact HO_5.out⟩, ⟨by repeat (first | (with_reducible first | exact HB.out | apply below_alloc | apply pw_below_drewN | apply below_drew1) | exact HB.out)⟩⟩
                          · rw [if_neg c21] at H
                            have c21b0 : ((rd t160 x7_2) == 4) = false := beq_eq_false_iff_ne.mpr c21
                            have c21b1 : ((rd t160 x7_2) != 4) = true := bne_iff_ne.mpr c21
                            by_cases c23 : (rd t160 x7_2) = 5
                            · rw [if_pos c23] at H
                              have c23b0 : ((rd t160 x7_2) == 5) = true := beq_iff_eq.mpr c23
                              have c23b1 : ((rd t160 x7_2) != 5) = false := bne_eq_false_iff_eq.mpr c23
                              clear c23
                              have H' := Aside0.mk H
                              clear H
                              obtain ⟨Ao24, co24, eo24⟩ := Kd.R_slice HO_5.out
                              subst eo24
                              have p165 : 0 ≤ (x7_2 : Int) := of_decide_eq_true (by first | (with_reducible assumption) | assumption)
                              have q165 : x7_2 < (t160.length : Int) := of_decide_eq_true (by first | (with_reducible assumption) | assumption)
                              obtain ⟨ad165, e165, hx165_0⟩ := Kd.at_int (Kd.R_reads' HO_5.out).2.2 x7_2 p165 q165
                              cases e165
                              replace p165 := eq_true p165
                              replace q165 := eq_true q165
                              have p166 : 0 ≤ (x7_2 : Int) := of_decide_eq_true (by first | (with_reducible assumption) | assumption)
                              have q166 : x7_2 < (t160.length : Int) := of_decide_eq_true (by first | (with_reducible assumption) | assumption)
                              obtain ⟨ad166, e166, hx166_0⟩ := Kd.at_int (Kd.R_reads' HO_5.out).2.2 x7_2 p166 q166
                              obtain rfl : ad165 = ad166 := (by injection e166)
                              replace p166 := eq_true p166
                              replace q166 := eq_true q166
                              have p167 : 0 ≤ (x7_2 : Int) := of_decide_eq_true (by first | (with_reducible assumption) | assumption)
                              have q167 : x7_2 < (t160.length : Int) := of_decide_eq_true (by first | (with_reducible assumption) | assumption)
                              obtain ⟨ad167, e167, hx167_0⟩ := Kd.at_int (Kd.R_reads' HO_5.out).2.2 x7_2 p167 q167
                              obtain rfl : ad165 = ad167 := (by injection e167)
                              replace p167 := eq_true p167
                              replace q167 := eq_true q167
                              have p168 : 0 ≤ (x7_2 : Int) := of_decide_eq_true (by first | (with_reducible assumption) | assumption)
                              have q168 : x7_2 < (t160.length : Int) := of_decide_eq_true (by first | (with_reducible assumption) | assumption)
                              obtain ⟨ad168, e168, hx168_0⟩ := Kd.at_int (Kd.R_reads' HO_5.out).2.2 x7_2 p168 q168
                              obtain rfl : ad165 = ad168 := (by injection e168)
                              replace p168 := eq_true p168
                              replace q168 := eq_true q168
                              go_wp2
                              go_meet
                              case rel => exact ⟨_, (true), (by first | rfl | (simp; done) | (simp [*]; done)), H', ⟨by have := HJ7.out; have := HK2.out; first | omega | exact Nat.le_refl _⟩, ⟨by (with_reducible repeat (first | apply Kd.R_alloc | apply Kd.R_drewN | apply Kd.R_drew)); exact HO_5.out⟩, ⟨by repeat (first | (with_reducible first | exact HB.out | apply below_alloc | apply pw_below_drewN | apply below_drew1) | exact HB.out)⟩⟩
                            · rw [if_neg c23] at H
                              have c23b0 : ((rd t160 x7_2) == 5) = false := beq_eq_false_iff_ne.mpr c23
                              have c23b1 : ((rd t160 x7_2) != 5) = true := bne_iff_ne.mpr c23
                              have H' := Aside0.mk H
                              clear H
                              obtain ⟨Ao25, co25, eo25⟩ := Kd.R_slice HO_5.out
                              subst eo25
                              have p165 : 0 ≤ (x7_2 : Int) := of_decide_eq_true (by first | (with_reducible assumption) | assumption)
                              have q165 : x7_2 < (t160.length : Int) := of_decide_eq_true (by first | (with_reducible assumption) | assumption)
                              obtain ⟨ad165, e165, hx165_0⟩ := Kd.at_int (Kd.R_reads' HO_5.out).2.2 x7_2 p165 q165
                              cases e165
                              replace p165 := eq_true p165
                              replace q165 := eq_true q165
                              have p166 : 0 ≤ (x7_2 : Int) := of_decide_eq_true (by first | (with_reducible assumption) | assumption)
                              have q166 : x7_2 < (t160.length : Int) := of_decide_eq_true (by first | (with_reducible assumption) | assumption)
                              obtain ⟨ad166, e166, hx166_0⟩ := Kd.at_int (Kd.R_reads' HO_5.out).2.2 x7_2 p166 q166
                              obtain rfl : ad165 = ad166 := (by injection e166)
                              replace p166 := eq_true p166
                              replace q166 := eq_true q166
                              have p167 : 0 ≤ (x7_2 : Int) := of_decide_eq_true (by first | (with_reducible assumption) | assumption)
                              have q167 : x7_2 < (t160.length : Int) := of_decide_eq_true (by first | (with_reducible assumption) | assumption)
                              obtain ⟨ad167, e167, hx167_0⟩ := Kd.at_int (Kd.R_reads' HO_5.out).2.2 x7_2 p167 q167
                              obtain rfl : ad165 = ad167 := (by injection e167)
                              replace p167 := eq_true p167
                              replace q167 := eq_true q167
                              have p168 : 0 ≤ (x7_2 : Int) := of_decide_eq_true (by first | (with_reducible assumption) | assumption)
                              have q168 : x7_2 < (t160.length : Int) := of_decide_eq_true (by first | (with_reducible assumption) | assumption)
                              obtain ⟨ad168, e168, hx168_0⟩ := Kd.at_int (Kd.R_reads' HO_5.out).2.2 x7_2 p168 q168
                              obtain rfl : ad165 = ad168 := (by injection e168)
                              replace p168 := eq_true p168
                              replace q168 := eq_true q168
                              have p169 : 0 ≤ (x7_2 : Int) := of_decide_eq_true (by first | (with_reducible assumption) | assumption)
                              have q169 : x7_2 < (t160.length : Int) := of_decide_eq_true (by first | (with_reducible assumption) | assumption)
                              obtain ⟨ad169, e169, hx169_0⟩ := Kd.at_int (Kd.R_reads' HO_5.out).2.2 x7_2 p169 q169
                              obtain rfl : ad165 = ad169 := (by injection e169)
                              replace p169 := eq_true p169
                              replace q169 := eq_true q169
                              go_wp2
                              go_meet
                              case rel => exact ⟨_, (((rd t160 x7_2) == 7)), (by first | rfl | (simp; done) | (simp [*]; done)), H', ⟨by have := HJ7.out; have := HK2.out; first | omega | exact Nat.le_refl _⟩, ⟨by (with_reducible repeat (first | apply Kd.R_alloc | apply Kd.R_drewN | apply Kd.R_drew)); exact HO_5.out⟩, ⟨by repeat (first | (with_reducible first | exact HB.out | apply below_alloc | apply pw_below_drewN | apply below_drew1) | exact HB.out)⟩⟩
                    · rw [if_neg c16] at H
                      exact absurd H (by simp)
                  case rest =>
                    clear HC15
                    try clear c1
                    try clear p1
                    try clear q1
                    try clear hx1
                    try clear c2
                    try clear p2
                    try clear c3
                    try clear c3b0
                    try clear c3b1
                    try clear c7
                    try clear c8
                    try clear c9
                    try clear c10
                    try clear c10b0
                    try clear c10b1
                    try clear c12
                    try clear c13
                    try clear c13b0
                    try clear c14
                    try clear c14b0
                    try clear c16
                    try clear c16b0
                    try clear p16
                    try clear q16
                    try clear hx16
                    try clear c17
                    try clear c17b0
                    try clear c17b1
                    try clear c19
                    try clear c19b0
                    try clear c19b1
                    try clear c21
                    try clear c21b0
                    try clear c21b1
                    try clear c23
                    try clear c23b0
                    try clear c23b1
                    try clear hx164_0
                    try clear hx165_0
                    try clear hx166_0
                    try clear hx167_0
                    try clear hx168_0
                    try clear hx169_0
                    try clear p164
                    try clear p165
                    try clear p166
                    try clear p167
                    try clear p168
                    try clear p169
                    try clear p2
                    try clear q164
                    try clear q165
                    try clear q166
                    try clear q167
                    try clear q168
                    try clear q169
                    obtain ⟨kq, x74_14, rfl, HA, HJ14, HO_5, HB⟩ := hcut
                    cases kq with
                    | zero => exact absurd HA.out (by simp [frisketlaw10_WeakLeft.j2])
                    | succ kj14 =>
                      have H := HA.out
                      clear HA
                      simp only [frisketlaw10_WeakLeft.j2] at H
                      by_cases c26 : x74_14 = true
                      · subst c26
                        have H1 : (some false) = some r := by rw [if_pos rfl] at H; exact H
                        clear H
                        have H := H1
                        clear H1
                        exact af_absurd HRT.out H (by repeat (first | exact AF.none | exact AF.false | refine AF.ite ?_ ?_ | refine AF.bind (fun _ => ?_)))
                      · replace c26 := Bool.eq_false_iff.mpr c26
                        subst c26
                        have H1 : (if (rd l0 x7_2) = 8 then (if (rd l0 x7_2) = 2 then (if 0 ≤ x7_2 then (if x7_2 < (t160.length : Int) then (if (rd t160 x7_2) = 1 then (frisketlaw10_WeakLeft.l0 kj14 l0 a1 t160 (wrap64 (x7_2 + 1))) else (some false)) else (none)) else (none)) else (frisketlaw10_WeakLeft.l0 kj14 l0 a1 t160 (wrap64 (x7_2 + 1)))) else (if (rd l0 x7_2) = 3 then (if (rd l0 x7_2) = 2 then (if 0 ≤ x7_2 then (if x7_2 < (t160.length : Int) then (if (rd t160 x7_2) = 1 then (frisketlaw10_WeakLeft.l0 kj14 l0 a1 t160 (wrap64 (x7_2 + 1))) else (some false)) else (none)) else (none)) else (frisketlaw10_WeakLeft.l0 kj14 l0 a1 t160 (wrap64 (x7_2 + 1)))) else (if (rd l0 x7_2) = 4 then (if (rd l0 x7_2) = 2 then (if 0 ≤ x7_2 then (if x7_2 < (t160.length : Int) then (if (rd t160 x7_2) = 1 then (frisketlaw10_WeakLeft.l0 kj14 l0 a1 t160 (wrap64 (x7_2 + 1))) else (some false)) else (none)) else (none)) else (frisketlaw10_WeakLeft.l0 kj14 l0 a1 t160 (wrap64 (x7_2 + 1)))) else (if (rd l0 x7_2) = 5 then (if (rd l0 x7_2) = 2 then (if 0 ≤ x7_2 then (if x7_2 < (t160.length : Int) then (if (rd t160 x7_2) = 1 then (frisketlaw10_WeakLeft.l0 kj14 l0 a1 t160 (wrap64 (x7_2 + 1))) else (some false)) else (none)) else (none)) else (frisketlaw10_WeakLeft.l0 kj14 l0 a1 t160 (wrap64 (x7_2 + 1)))) else (if (rd l0 x7_2) = 2 then (if 0 ≤ x7_2 then (if x7_2 < (t160.length : Int) then (if (rd t160 x7_2) = 1 then (frisketlaw10_WeakLeft.l0 kj14 l0 a1 t160 (wrap64 (x7_2 + 1))) else (some false)) else (none)) else (none)) else (if (rd l0 x7_2) = 7 then (frisketlaw10_WeakLeft.l0 kj14 l0 a1 t160 (wrap64 (x7_2 + 1))) else (if 0 ≤ x7_2 then (if x7_2 < (t160.length : Int) then (if (rd t160 x7_2) = (rd l0 x7_2) then (frisketlaw10_WeakLeft.l0 kj14 l0 a1 t160 (wrap64 (x7_2 + 1))) else (some false)) else (none)) else (none)))))))) = some r := by rw [if_neg (show ¬ (false = true) by decide)] at H; exact H
                        clear H
                        have H := H1
                        clear H1
                        by_cases c27 : (rd l0 x7_2) = 8
                        · rw [if_pos c27] at H
                          have c27b0 : ((rd l0 x7_2) == 8) = true := beq_iff_eq.mpr c27
                          have c27b1 : ((rd l0 x7_2) != 8) = false := bne_eq_false_iff_eq.mpr c27
                          clear c27
                          by_cases c28 : (rd l0 x7_2) = 2
                          · rw [if_pos c28] at H
                            have c28b0 : ((rd l0 x7_2) == 2) = true := beq_iff_eq.mpr c28
                            have c28b1 : ((rd l0 x7_2) != 2) = false := bne_eq_false_iff_eq.mpr c28
                            clear c28
                            by_cases c29 : 0 ≤ x7_2
                            · rw [if_pos c29] at H
                              have c29b0 : decide (0 ≤ x7_2) = true := decide_eq_true c29
                              clear c29
                              by_cases c30 : x7_2 < (t160.length : Int)
                              · rw [if_pos c30] at H
                                have c30b0 : decide (x7_2 < (t160.length : Int)) = true := decide_eq_true c30
                                clear c30
                                by_cases c31 : (rd t160 x7_2) = 1
                                · rw [if_pos c31] at H
                                  have c31b0 : ((rd t160 x7_2) == 1) = true := beq_iff_eq.mpr c31
                                  have c31b1 : ((rd t160 x7_2) != 1) = false := bne_eq_false_iff_eq.mpr c31
                                  clear c31
                                  have H' := Aside0.mk H
                                  clear H
                                  obtain ⟨Ao32, co32, eo32⟩ := Kd.R_slice HO_5.out
                                  subst eo32
                                  have p170 : 0 ≤ (x7_2 : Int) := of_decide_eq_true (by first | (with_reducible assumption) | assumption)
                                  have q170 : x7_2 < (t160.length : Int) := of_decide_eq_true (by first | (with_reducible assumption) | assumption)
                                  obtain ⟨ad170, e170, hx170_0⟩ := Kd.at_int (Kd.R_reads' HO_5.out).2.2 x7_2 p170 q170
                                  cases e170
                                  replace p170 := eq_true p170
                                  replace q170 := eq_true q170
                                  go_wp2
                                  go_roundg kj14
                                  case measure => have := HJ7.out; have := HK2.out; have := HJ14.out; omega
                                  case rel => exact ⟨(wrap64 (x7_2 + 1)), (by first | rfl | (simp; done) | (simp [*]; done)), H', ⟨by have := HJ7.out; have := HK2.out; have := HJ14.out; omega⟩, ⟨by (with_reducible repeat (first | apply Kd.R_alloc | apply Kd.R_drewN | apply Kd.R_drew)); exact HO_5.out⟩, ⟨by repeat (first | (with_reducible first | exact HB.out | apply below_alloc | apply pw_below_drewN | apply below_drew1) | exact HB.out)⟩⟩
                                · rw [if_neg c31] at H
                                  have c31b0 : ((rd t160 x7_2) == 1) = false := beq_eq_false_iff_ne.mpr c31
                                  have c31b1 : ((rd t160 x7_2) != 1) = true := bne_iff_ne.mpr c31
                                  exact af_absurd HRT.out H (by repeat (first | exact AF.none | exact AF.false | refine AF.ite ?_ ?_ | refine AF.bind (fun _ => ?_)))
                              · rw [if_neg c30] at H
                                exact absurd H (by simp)
                            · rw [if_neg c29] at H
                              exact absurd H (by simp)
                          · rw [if_neg c28] at H
                            have c28b0 : ((rd l0 x7_2) == 2) = false := beq_eq_false_iff_ne.mpr c28
                            have c28b1 : ((rd l0 x7_2) != 2) = true := bne_iff_ne.mpr c28
                            have H' := Aside0.mk H
                            clear H
                            go_wp2
                            go_roundg kj14
                            case measure => have := HJ7.out; have := HK2.out; have := HJ14.out; omega
                            case rel => exact ⟨(wrap64 (x7_2 + 1)), (by first | rfl | (simp; done) | (simp [*]; done)), H', ⟨by have := HJ7.out; have := HK2.out; have := HJ14.out; omega⟩, ⟨by (with_reducible repeat (first | apply Kd.R_alloc | apply Kd.R_drewN | apply Kd.R_drew)); exact HO_5.out⟩, ⟨by repeat (first | (with_reducible first | exact HB.out | apply below_alloc | apply pw_below_drewN | apply below_drew1) | exact HB.out)⟩⟩
                        · rw [if_neg c27] at H
                          have c27b0 : ((rd l0 x7_2) == 8) = false := beq_eq_false_iff_ne.mpr c27
                          have c27b1 : ((rd l0 x7_2) != 8) = true := bne_iff_ne.mpr c27
                          by_cases c33 : (rd l0 x7_2) = 3
                          · rw [if_pos c33] at H
                            have c33b0 : ((rd l0 x7_2) == 3) = true := beq_iff_eq.mpr c33
                            have c33b1 : ((rd l0 x7_2) != 3) = false := bne_eq_false_iff_eq.mpr c33
                            clear c33
                            by_cases c34 : (rd l0 x7_2) = 2
                            · rw [if_pos c34] at H
                              have c34b0 : ((rd l0 x7_2) == 2) = true := beq_iff_eq.mpr c34
                              have c34b1 : ((rd l0 x7_2) != 2) = false := bne_eq_false_iff_eq.mpr c34
                              clear c34
                              by_cases c35 : 0 ≤ x7_2
                              · rw [if_pos c35] at H
                                have c35b0 : decide (0 ≤ x7_2) = true := decide_eq_true c35
                                clear c35
                                by_cases c36 : x7_2 < (t160.length : Int)
                                · rw [if_pos c36] at H
                                  have c36b0 : decide (x7_2 < (t160.length : Int)) = true := decide_eq_true c36
                                  clear c36
                                  by_cases c37 : (rd t160 x7_2) = 1
                                  · rw [if_pos c37] at H
                                    have c37b0 : ((rd t160 x7_2) == 1) = true := beq_iff_eq.mpr c37
                                    have c37b1 : ((rd t160 x7_2) != 1) = false := bne_eq_false_iff_eq.mpr c37
                                    clear c37
                                    have H' := Aside0.mk H
                                    clear H
                                    obtain ⟨Ao38, co38, eo38⟩ := Kd.R_slice HO_5.out
                                    subst eo38
                                    have p171 : 0 ≤ (x7_2 : Int) := of_decide_eq_true (by first | (with_reducible assumption) | assumption)
                                    have q171 : x7_2 < (t160.length : Int) := of_decide_eq_true (by first | (with_reducible assumption) | assumption)
                                    obtain ⟨ad171, e171, hx171_0⟩ := Kd.at_int (Kd.R_reads' HO_5.out).2.2 x7_2 p171 q171
                                    cases e171
                                    replace p171 := eq_true p171
                                    replace q171 := eq_true q171
                                    go_wp2
                                    go_roundg kj14
                                    case measure => have := HJ7.out; have := HK2.out; have := HJ14.out; omega
                                    case rel => exact ⟨(wrap64 (x7_2 + 1)), (by first | rfl | (simp; done) | (simp [*]; done)), H', ⟨by have := HJ7.out; have := HK2.out; have := HJ14.out; omega⟩, ⟨by (with_reducible repeat (first | apply Kd.R_alloc | apply Kd.R_drewN | apply Kd.R_drew)); exact HO_5.out⟩, ⟨by repeat (first | (with_reducible first | exact HB.out | apply below_alloc | apply pw_below_drewN | apply below_drew1) | exact HB.out)⟩⟩
                                  · rw [if_neg c37] at H
                                    have c37b0 : ((rd t160 x7_2) == 1) = false := beq_eq_false_iff_ne.mpr c37
                                    have c37b1 : ((rd t160 x7_2) != 1) = true := bne_iff_ne.mpr c37
                                    exact af_absurd HRT.out H (by repeat (first | exact AF.none | exact AF.false | refine AF.ite ?_ ?_ | refine AF.bind (fun _ => ?_)))
                                · rw [if_neg c36] at H
                                  exact absurd H (by simp)
                              · rw [if_neg c35] at H
                                exact absurd H (by simp)
                            · rw [if_neg c34] at H
                              have c34b0 : ((rd l0 x7_2) == 2) = false := beq_eq_false_iff_ne.mpr c34
                              have c34b1 : ((rd l0 x7_2) != 2) = true := bne_iff_ne.mpr c34
                              have H' := Aside0.mk H
                              clear H
                              go_wp2
                              go_roundg kj14
                              case measure => have := HJ7.out; have := HK2.out; have := HJ14.out; omega
                              case rel => exact ⟨(wrap64 (x7_2 + 1)), (by first | rfl | (simp; done) | (simp [*]; done)), H', ⟨by have := HJ7.out; have := HK2.out; have := HJ14.out; omega⟩, ⟨by (with_reducible repeat (first | apply Kd.R_alloc | apply Kd.R_drewN | apply Kd.R_drew)); exact HO_5.out⟩, ⟨by repeat (first | (with_reducible first | exact HB.out | apply below_alloc | apply pw_below_drewN | apply below_drew1) | exact HB.out)⟩⟩
                          · rw [if_neg c33] at H
                            have c33b0 : ((rd l0 x7_2) == 3) = false := beq_eq_false_iff_ne.mpr c33
                            have c33b1 : ((rd l0 x7_2) != 3) = true := bne_iff_ne.mpr c33
                            by_cases c39 : (rd l0 x7_2) = 4
                            · rw [if_pos c39] at H
                              have c39b0 : ((rd l0 x7_2) == 4) = true := beq_iff_eq.mpr c39
                              have c39b1 : ((rd l0 x7_2) != 4) = false := bne_eq_false_iff_eq.mpr c39
                              clear c39
                              by_cases c40 : (rd l0 x7_2) = 2
                              · rw [if_pos c40] at H
                                have c40b0 : ((rd l0 x7_2) == 2) = true := beq_iff_eq.mpr c40
                                have c40b1 : ((rd l0 x7_2) != 2) = false := bne_eq_false_iff_eq.mpr c40
                                clear c40
                                by_cases c41 : 0 ≤ x7_2
                                · rw [if_pos c41] at H
                                  have c41b0 : decide (0 ≤ x7_2) = true := decide_eq_true c41
                                  clear c41
                                  by_cases c42 : x7_2 < (t160.length : Int)
                                  · rw [if_pos c42] at H
                                    have c42b0 : decide (x7_2 < (t160.length : Int)) = true := decide_eq_true c42
                                    clear c42
                                    by_cases c43 : (rd t160 x7_2) = 1
                                    · rw [if_pos c43] at H
                                      have c43b0 : ((rd t160 x7_2) == 1) = true := beq_iff_eq.mpr c43
                                      have c43b1 : ((rd t160 x7_2) != 1) = false := bne_eq_false_iff_eq.mpr c43
                                      clear c43
                                      have H' := Aside0.mk H
                                      clear H
                                      obtain ⟨Ao44, co44, eo44⟩ := Kd.R_slice HO_5.out
                                      subst eo44
                                      have p172 : 0 ≤ (x7_2 : Int) := of_decide_eq_true (by first | (with_reducible assumption) | assumption)
                                      have q172 : x7_2 < (t160.length : Int) := of_decide_eq_true (by first | (with_reducible assumption) | assumption)
                                      obtain ⟨ad172, e172, hx172_0⟩ := Kd.at_int (Kd.R_reads' HO_5.out).2.2 x7_2 p172 q172
                                      cases e172
                                      replace p172 := eq_true p172
                                      replace q172 := eq_true q172
                                      go_wp2
                                      go_roundg kj14
                                      case measure => have := HJ7.out; have := HK2.out; have := HJ14.out; omega
                                      case rel => exact ⟨(wrap64 (x7_2 + 1)), (by first | rfl | (simp; done) | (simp [*]; done)), H', ⟨by have := HJ7.out; have := HK2.out; have := HJ14.out; omega⟩, ⟨by (with_reducible repeat (first | apply Kd.R_alloc | apply Kd.R_drewN | apply Kd.R_drew)); exact HO_5.out⟩, ⟨by repeat (first | (with_reducible first | exact HB.out | apply below_alloc | apply pw_below_drewN | apply below_drew1) | exact HB.out)⟩⟩
                                    · rw [if_neg c43] at H
                                      have c43b0 : ((rd t160 x7_2) == 1) = false := beq_eq_false_iff_ne.mpr c43
                                      have c43b1 : ((rd t160 x7_2) != 1) = true := bne_iff_ne.mpr c43
                                      exact af_absurd HRT.out H (by repeat (first | exact AF.none | exact AF.false | refine AF.ite ?_ ?_ | refine AF.bind (fun _ => ?_)))
                                  · rw [if_neg c42] at H
                                    exact absurd H (by simp)
                                · rw [if_neg c41] at H
                                  exact absurd H (by simp)
                              · rw [if_neg c40] at H
                                have c40b0 : ((rd l0 x7_2) == 2) = false := beq_eq_false_iff_ne.mpr c40
                                have c40b1 : ((rd l0 x7_2) != 2) = true := bne_iff_ne.mpr c40
                                have H' := Aside0.mk H
                                clear H
                                go_wp2
                                go_roundg kj14
                                case measure => have := HJ7.out; have := HK2.out; have := HJ14.out; omega
                                case rel => exact ⟨(wrap64 (x7_2 + 1)), (by first | rfl | (simp; done) | (simp [*]; done)), H', ⟨by have := HJ7.out; have := HK2.out; have := HJ14.out; omega⟩, ⟨by (with_reducible repeat (first | apply Kd.R_alloc | apply Kd.R_drewN | apply Kd.R_drew)); exact HO_5.out⟩, ⟨by repeat (first | (with_reducible first | exact HB.out | apply below_alloc | apply pw_below_drewN | apply below_drew1) | exact HB.out)⟩⟩
                            · rw [if_neg c39] at H
                              have c39b0 : ((rd l0 x7_2) == 4) = false := beq_eq_false_iff_ne.mpr c39
                              have c39b1 : ((rd l0 x7_2) != 4) = true := bne_iff_ne.mpr c39
                              by_cases c45 : (rd l0 x7_2) = 5
                              · rw [if_pos c45] at H
                                have c45b0 : ((rd l0 x7_2) == 5) = true := beq_iff_eq.mpr c45
                                have c45b1 : ((rd l0 x7_2) != 5) = false := bne_eq_false_iff_eq.mpr c45
                                clear c45
                                by_cases c46 : (rd l0 x7_2) = 2
                                · rw [if_pos c46] at H
                                  have c46b0 : ((rd l0 x7_2) == 2) = true := beq_iff_eq.mpr c46
                                  have c46b1 : ((rd l0 x7_2) != 2) = false := bne_eq_false_iff_eq.mpr c46
                                  clear c46
                                  by_cases c47 : 0 ≤ x7_2
                                  · rw [if_pos c47] at H
                                    have c47b0 : decide (0 ≤ x7_2) = true := decide_eq_true c47
                                    clear c47
                                    by_cases c48 : x7_2 < (t160.length : Int)
                                    · rw [if_pos c48] at H
                                      have c48b0 : decide (x7_2 < (t160.length : Int)) = true := decide_eq_true c48
                                      clear c48
                                      by_cases c49 : (rd t160 x7_2) = 1
                                      · rw [if_pos c49] at H
                                        have c49b0 : ((rd t160 x7_2) == 1) = true := beq_iff_eq.mpr c49
                                        have c49b1 : ((rd t160 x7_2) != 1) = false := bne_eq_false_iff_eq.mpr c49
                                        clear c49
                                        have H' := Aside0.mk H
                                        clear H
                                        obtain ⟨Ao50, co50, eo50⟩ := Kd.R_slice HO_5.out
                                        subst eo50
                                        have p173 : 0 ≤ (x7_2 : Int) := of_decide_eq_true (by first | (with_reducible assumption) | assumption)
                                        have q173 : x7_2 < (t160.length : Int) := of_decide_eq_true (by first | (with_reducible assumption) | assumption)
                                        obtain ⟨ad173, e173, hx173_0⟩ := Kd.at_int (Kd.R_reads' HO_5.out).2.2 x7_2 p173 q173
                                        cases e173
                                        replace p173 := eq_true p173
                                        replace q173 := eq_true q173
                                        go_wp2
                                        go_roundg kj14
                                        case measure => have := HJ7.out; have := HK2.out; have := HJ14.out; omega
                                        case rel => exact ⟨(wrap64 (x7_2 + 1)), (by first | rfl | (simp; done) | (simp [*]; done)), H', ⟨by have := HJ7.out; have := HK2.out; have := HJ14.out; omega⟩, ⟨by (with_reducible repeat (first | apply Kd.R_alloc | apply Kd.R_drewN | apply Kd.R_drew)); exact HO_5.out⟩, ⟨by repeat (first | (with_reducible first | exact HB.out | apply below_alloc | apply pw_below_drewN | apply below_drew1) | exact HB.out)⟩⟩
                                      · rw [if_neg c49] at H
                                        have c49b0 : ((rd t160 x7_2) == 1) = false := beq_eq_false_iff_ne.mpr c49
                                        have c49b1 : ((rd t160 x7_2) != 1) = true := bne_iff_ne.mpr c49
                                        exact af_absurd HRT.out H (by repeat (first | exact AF.none | exact AF.false | refine AF.ite ?_ ?_ | refine AF.bind (fun _ => ?_)))
                                    · rw [if_neg c48] at H
                                      exact absurd H (by simp)
                                  · rw [if_neg c47] at H
                                    exact absurd H (by simp)
                                · rw [if_neg c46] at H
                                  have c46b0 : ((rd l0 x7_2) == 2) = false := beq_eq_false_iff_ne.mpr c46
                                  have c46b1 : ((rd l0 x7_2) != 2) = true := bne_iff_ne.mpr c46
                                  have H' := Aside0.mk H
                                  clear H
                                  go_wp2
                                  go_roundg kj14
                                  case measure => have := HJ7.out; have := HK2.out; have := HJ14.out; omega
                                  case rel => exact ⟨(wrap64 (x7_2 + 1)), (by first | rfl | (simp; done) | (simp [*]; done)), H', ⟨by have := HJ7.out; have := HK2.out; have := HJ14.out; omega⟩, ⟨by (with_reducible repeat (first | apply Kd.R_alloc | apply Kd.R_drewN | apply Kd.R_drew)); exact HO_5.out⟩, ⟨by repeat (first | (with_reducible first | exact HB.out | apply below_alloc | apply pw_below_drewN | apply below_drew1) | exact HB.out)⟩⟩
                              · rw [if_neg c45] at H
                                have c45b0 : ((rd l0 x7_2) == 5) = false := beq_eq_false_iff_ne.mpr c45
                                have c45b1 : ((rd l0 x7_2) != 5) = true := bne_iff_ne.mpr c45
                                by_cases c51 : (rd l0 x7_2) = 2
                                · rw [if_pos c51] at H
                                  have c51b0 : ((rd l0 x7_2) == 2) = true := beq_iff_eq.mpr c51
                                  have c51b1 : ((rd l0 x7_2) != 2) = false := bne_eq_false_iff_eq.mpr c51
                                  clear c51
                                  by_cases c52 : 0 ≤ x7_2
                                  · rw [if_pos c52] at H
                                    have c52b0 : decide (0 ≤ x7_2) = true := decide_eq_true c52
                                    clear c52
                                    by_cases c53 : x7_2 < (t160.length : Int)
                                    · rw [if_pos c53] at H
                                      have c53b0 : decide (x7_2 < (t160.length : Int)) = true := decide_eq_true c53
                                      clear c53
                                      by_cases c54 : (rd t160 x7_2) = 1
                                      · rw [if_pos c54] at H
                                        have c54b0 : ((rd t160 x7_2) == 1) = true := beq_iff_eq.mpr c54
                                        have c54b1 : ((rd t160 x7_2) != 1) = false := bne_eq_false_iff_eq.mpr c54
                                        clear c54
                                        have H' := Aside0.mk H
                                        clear H
                                        obtain ⟨Ao55, co55, eo55⟩ := Kd.R_slice HO_5.out
                                        subst eo55
                                        have p174 : 0 ≤ (x7_2 : Int) := of_decide_eq_true (by first | (with_reducible assumption) | assumption)
                                        have q174 : x7_2 < (t160.length : Int) := of_decide_eq_true (by first | (with_reducible assumption) | assumption)
                                        obtain ⟨ad174, e174, hx174_0⟩ := Kd.at_int (Kd.R_reads' HO_5.out).2.2 x7_2 p174 q174
                                        cases e174
                                        replace p174 := eq_true p174
                                        replace q174 := eq_true q174
                                        go_wp2
                                        go_roundg kj14
                                        case measure => have := HJ7.out; have := HK2.out; have := HJ14.out; omega
                                        case rel => exact ⟨(wrap64 (x7_2 + 1)), (by first | rfl | (simp; done) | (simp [*]; done)), H', ⟨by have := HJ7.out; have := HK2.out; have := HJ14.out; omega⟩, ⟨by (with_reducible repeat (first | apply Kd.R_alloc | apply Kd.R_drewN | apply Kd.R_drew)); exact HO_5.out⟩, ⟨by repeat (first | (with_reducible first | exact HB.out | apply below_alloc | apply pw_below_drewN | apply below_drew1) | exact HB.out)⟩⟩
                                      · rw [if_neg c54] at H
                                        have c54b0 : ((rd t160 x7_2) == 1) = false := beq_eq_false_iff_ne.mpr c54
                                        have c54b1 : ((rd t160 x7_2) != 1) = true := bne_iff_ne.mpr c54
                                        exact af_absurd HRT.out H (by repeat (first | exact AF.none | exact AF.false | refine AF.ite ?_ ?_ | refine AF.bind (fun _ => ?_)))
                                    · rw [if_neg c53] at H
                                      exact absurd H (by simp)
                                  · rw [if_neg c52] at H
                                    exact absurd H (by simp)
                                · rw [if_neg c51] at H
                                  have c51b0 : ((rd l0 x7_2) == 2) = false := beq_eq_false_iff_ne.mpr c51
                                  have c51b1 : ((rd l0 x7_2) != 2) = true := bne_iff_ne.mpr c51
                                  by_cases c56 : (rd l0 x7_2) = 7
                                  · rw [if_pos c56] at H
                                    have c56b0 : ((rd l0 x7_2) == 7) = true := beq_iff_eq.mpr c56
                                    have c56b1 : ((rd l0 x7_2) != 7) = false := bne_eq_false_iff_eq.mpr c56
                                    clear c56
                                    have H' := Aside0.mk H
                                    clear H
                                    go_wp2
                                    go_roundg kj14
                                    case measure => have := HJ7.out; have := HK2.out; have := HJ14.out; omega
                                    case rel => exact ⟨(wrap64 (x7_2 + 1)), (by first | rfl | (simp; done) | (simp [*]; done)), H', ⟨by have := HJ7.out; have := HK2.out; have := HJ14.out; omega⟩, ⟨by (with_reducible repeat (first | apply Kd.R_alloc | apply Kd.R_drewN | apply Kd.R_drew)); exact HO_5.out⟩, ⟨by repeat (first | (with_reducible first | exact HB.out | apply below_alloc | apply pw_below_drewN | apply below_drew1) | exact HB.out)⟩⟩
                                  · rw [if_neg c56] at H
                                    have c56b0 : ((rd l0 x7_2) == 7) = false := beq_eq_false_iff_ne.mpr c56
                                    have c56b1 : ((rd l0 x7_2) != 7) = true := bne_iff_ne.mpr c56
                                    by_cases c57 : 0 ≤ x7_2
                                    · rw [if_pos c57] at H
                                      have c57b0 : decide (0 ≤ x7_2) = true := decide_eq_true c57
                                      clear c57
                                      by_cases c58 : x7_2 < (t160.length : Int)
                                      · rw [if_pos c58] at H
                                        have c58b0 : decide (x7_2 < (t160.length : Int)) = true := decide_eq_true c58
                                        clear c58
                                        by_cases c59 : (rd t160 x7_2) = (rd l0 x7_2)
                                        · rw [if_pos c59] at H
                                          have c59b0 : ((rd t160 x7_2) == (rd l0 x7_2)) = true := beq_iff_eq.mpr c59
                                          have c59b1 : ((rd t160 x7_2) != (rd l0 x7_2)) = false := bne_eq_false_iff_eq.mpr c59
                                          clear c59
                                          have H' := Aside0.mk H
                                          clear H
                                          obtain ⟨Ao60, co60, eo60⟩ := Kd.R_slice HO_5.out
                                          subst eo60
                                          have p175 : 0 ≤ (x7_2 : Int) := of_decide_eq_true (by first | (with_reducible assumption) | assumption)
                                          have q175 : x7_2 < (t160.length : Int) := of_decide_eq_true (by first | (with_reducible assumption) | assumption)
                                          obtain ⟨ad175, e175, hx175_0⟩ := Kd.at_int (Kd.R_reads' HO_5.out).2.2 x7_2 p175 q175
                                          cases e175
                                          replace p175 := eq_true p175
                                          replace q175 := eq_true q175
                                          go_wp2
                                          go_roundg kj14
                                          case measure => have := HJ7.out; have := HK2.out; have := HJ14.out; omega
                                          case rel => exact ⟨(wrap64 (x7_2 + 1)), (by first | rfl | (simp; done) | (simp [*]; done)), H', ⟨by have := HJ7.out; have := HK2.out; have := HJ14.out; omega⟩, ⟨by (with_reducible repeat (first | apply Kd.R_alloc | apply Kd.R_drewN | apply Kd.R_drew)); exact HO_5.out⟩, ⟨by repeat (first | (with_reducible first | exact HB.out | apply below_alloc | apply pw_below_drewN | apply below_drew1) | exact HB.out)⟩⟩
                                        · rw [if_neg c59] at H
                                          have c59b0 : ((rd t160 x7_2) == (rd l0 x7_2)) = false := beq_eq_false_iff_ne.mpr c59
                                          have c59b1 : ((rd t160 x7_2) != (rd l0 x7_2)) = true := bne_iff_ne.mpr c59
                                          exact af_absurd HRT.out H (by repeat (first | exact AF.none | exact AF.false | refine AF.ite ?_ ?_ | refine AF.bind (fun _ => ?_)))
                                      · rw [if_neg c58] at H
                                        exact absurd H (by simp)
                                    · rw [if_neg c57] at H
                                      exact absurd H (by simp)
                · rw [if_neg c14] at H
                  exact absurd H (by simp)
              · rw [if_neg c13] at H
                have c13b0 : decide (x7_2 < (l0.length : Int)) = false := decide_eq_false c13
                clear c13
                replace H := Option.bind_eq_some_iff.mp H
                obtain ⟨t176, A610, H⟩ := H
                replace H : ((weak_All.f t160 t176).bind fun bt177 => ((frisketlaw10_alive.f k2).bind fun t181 => (if t181 = true then (if bt177.2 = 0 then ((frisketlaw08_Same.f k2 t160 bt177.1).bind fun t182 => (some t182)) else (some false)) else (some false)))) = some r := H
                have A61 := Aside0.mk A610
                clear A610
                replace H := Option.bind_eq_some_iff.mp H
                obtain ⟨⟨t177, t178⟩, A620, H⟩ := H
                replace H : ((frisketlaw10_alive.f k2).bind fun t181 => (if t181 = true then (if t178 = 0 then ((frisketlaw08_Same.f k2 t160 t177).bind fun t182 => (some t182)) else (some false)) else (some false))) = some r := H
                have A62 := Aside0.mk A620
                clear A620
                replace H := Option.bind_eq_some_iff.mp H
                obtain ⟨t181, A630, H⟩ := H
                replace H : (if t181 = true then (if t178 = 0 then ((frisketlaw08_Same.f k2 t160 t177).bind fun t182 => (some t182)) else (some false)) else (some false)) = some r := H
                have A63 := Aside0.mk A630
                clear A630
                by_cases c64 : t181 = true
                · subst c64
                  have H1 : (if t178 = 0 then ((frisketlaw08_Same.f k2 t160 t177).bind fun t182 => (some t182)) else (some false)) = some r := by rw [if_pos rfl] at H; exact H
                  clear H
                  have H := H1
                  clear H1
                  by_cases c65 : t178 = 0
                  · rw [if_pos c65] at H
                    have c65b0 : (t178 == 0) = true := beq_iff_eq.mpr c65
                    have c65b1 : (t178 != 0) = false := bne_eq_false_iff_eq.mpr c65
                    clear c65
                    replace H := Option.bind_eq_some_iff.mp H
                    obtain ⟨t182, A660, H⟩ := H
                    replace H : (some t182) = some r := H
                    have A66 := Aside0.mk A660
                    clear A660
                    obtain rfl := Option.some.inj H
                    go_wp2_with (first | ((with_reducible refine gate_callee (f := 9) rfl ?_); refine goesL_ (some 121) rfl rfl Try.func9 (by kernel_rfl) rfl #[.int .i64 a1] rfl (by (try simp only [List.map_toArray, List.map_cons, List.map_nil]); first | done | rfl | (simp only [List.length_drop, List.length_take]; rfl)) ?_; (with_reducible refine (frisketlaw10_side.calls a1 t176 _ A61.out).mono ?_); rintro e w' ⟨rfl, ⟨nd, rfl⟩⟩; refine ⟨_, rfl, ?_⟩; obtain ⟨Ao67, co67, eo67⟩ := Kd.R_slice HO_5.out; subst eo67) | ((with_reducible refine gate_callee (f := 8) rfl ?_); refine goesL_ (some 122) rfl rfl Try.func8 (by kernel_rfl) rfl #[.slice Ao67 t160.length co67, .int .i64 t176] rfl (by (try simp only [List.map_toArray, List.map_cons, List.map_nil]); first | done | rfl | (simp only [List.length_drop, List.length_take]; rfl)) ?_; (with_reducible refine (weak_All.calls _ _ t160 t176 t177 t178 _ ?side1 ?side2 A62.out).mono ?_); (case side1 => repeat (first | exact (Kd.R_reads' HO_5.out).2.2 | (with_reducible refine Kd.C_alloc ?_ _) | (with_reducible refine Kd.C_drewN ?_ _) | (with_reducible refine Kd.C_drew ?_))); (case side2 => exact (Kd.R_reads' HO_5.out).2.1); rintro e w68 ⟨v179, rfl, ho0, hb⟩; refine ⟨_, rfl, ?_⟩; have n0_ := Aside0.mk (Kd.R_elder' (by (with_reducible repeat (first | apply Kd.R_alloc | apply Kd.R_drewN | apply Kd.R_drew)); exact HO_5.out) (Kd.R_base ho0) hb); have n1_ := Aside0.mk (Kd.R_lower (Kd.R_new' ho0 (Kd.R_lt (by (with_reducible repeat (first | apply Kd.R_alloc | apply Kd.R_drewN | apply Kd.R_drew)); exact HO_5.out))) (below_size (by repeat (first | (with_reducible first | exact HB.out | apply below_alloc | apply pw_below_drewN | apply below_drew1) | exact HB.out)))); have n2_ := Aside0.mk (below_step (by repeat (first | (with_reducible first | exact HB.out | apply below_alloc | apply pw_below_drewN | apply below_drew1) | exact HB.out)) hb); clear HO_5; clear HB; have HO_5 := n0_; have HO180 := n1_; have HB := n2_; clear n0_ n1_ n2_; (try clear hb); (try clear hb2); (try clear hk); (try clear hi); (try clear ho0)) | ((with_reducible refine gate_callee (f := 7) rfl ?_); refine goesL_ (some 125) rfl rfl Try.func7 (by kernel_rfl) rfl #[] rfl (by (try simp only [List.map_toArray, List.map_cons, List.map_nil]); first | done | rfl | (simp only [List.length_drop, List.length_take]; rfl)) ?_; (with_reducible refine (frisketlaw10_alive.calls k2  true _ A63.out).mono ?_); rintro e w69 ⟨rfl, hb⟩; refine ⟨_, rfl, ?_⟩; have n0_ := Aside0.mk (Kd.R_below (by (with_reducible repeat (first | apply Kd.R_alloc | apply Kd.R_drewN | apply Kd.R_drew)); exact HO_5.out) hb); have n1_ := Aside0.mk (Kd.R_below (by (with_reducible repeat (first | apply Kd.R_alloc | apply Kd.R_drewN | apply Kd.R_drew)); exact HO180.out) hb); have n2_ := Aside0.mk (below_step (by repeat (first | (with_reducible first | exact HB.out | apply below_alloc | apply pw_below_drewN | apply below_drew1) | exact HB.out)) hb); clear HO_5; clear HO180; clear HB; have HO_5 := n0_; have HO180 := n1_; have HB := n2_; clear n0_ n1_ n2_; (try clear hb); (try clear hb2); (try clear hk); (try clear hi); obtain ⟨Ao70, co70, eo70⟩ := Kd.R_slice HO180.out; subst eo70) | (go_at_call 10; (with_reducible refine (frisketlaw08_Same.calls k2 _ _ t160 _ _ t177 t182 _ ?side1 ?side2 ?side3 ?side4 A66.out).mono ?_); (case side1 => repeat (first | exact (Kd.R_reads' HO_5.out).2.2 | (with_reducible refine Kd.C_alloc ?_ _) | (with_reducible refine Kd.C_drewN ?_ _) | (with_reducible refine Kd.C_drew ?_))); (case side2 => exact (Kd.R_reads' HO_5.out).2.1); (case side3 => repeat (first | exact (Kd.R_reads' HO180.out).2.2 | (with_reducible refine Kd.C_alloc ?_ _) | (with_reducible refine Kd.C_drewN ?_ _) | (with_reducible refine Kd.C_drew ?_))); (case side4 => exact (Kd.R_reads' HO180.out).2.1); rintro e w' ⟨rfl, ⟨nd, rfl⟩⟩))
                    go_ret
                    exact ⟨by first | rfl | (simp [errW_none, errW_some] <;> rfl) | (simp [*, errW_none, errW_some] <;> rfl), by repeat (first | (with_reducible first | exact HB.out | apply below_alloc | apply pw_below_drewN | apply below_drew1) | exact HB.out)⟩
                  · rw [if_neg c65] at H
                    have c65b0 : (t178 == 0) = false := beq_eq_false_iff_ne.mpr c65
                    have c65b1 : (t178 != 0) = true := bne_iff_ne.mpr c65
                    exact af_absurd HRT.out H (by repeat (first | exact AF.none | exact AF.false | refine AF.ite ?_ ?_ | refine AF.bind (fun _ => ?_)))
                · replace c64 := Bool.eq_false_iff.mpr c64
                  subst c64
                  have H1 : (some false) = some r := by rw [if_neg (show ¬ (false = true) by decide)] at H; exact H
                  clear H
                  have H := H1
                  clear H1
                  exact af_absurd HRT.out H (by repeat (first | exact AF.none | exact AF.false | refine AF.ite ?_ ?_ | refine AF.bind (fun _ => ?_)))

end Go.Proofs.Ytdhknnaholaohaa.P
