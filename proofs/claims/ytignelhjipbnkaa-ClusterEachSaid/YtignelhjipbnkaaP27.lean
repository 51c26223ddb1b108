/- Written by wip/tools/gprint.py of this repo over the translation: Lean functions that answer as the Go functions named below do, and the proof of it; the conditions stand in each theorem. -/
import Derived.Test.YtignelhjipbnkaaP0
import Derived.Test.YtignelhjipbnkaaP14
import Derived.Test.YtignelhjipbnkaaP15
import Derived.Test.YtignelhjipbnkaaHStarts
namespace Go.Proofs.Ytignelhjipbnkaa.P
open Go.RowKit Go.Proofs.YtignelhjipbnkaaW.PrintWords Go.Proofs.YtignelhjipbnkaaW.PrintLast Go.Proofs.YtignelhjipbnkaaW.PrintMore
attribute [local go_sem] max2_int min2_int max_two min_two max_three min_three max_four min_four   -- for this text's walks alone
set_option linter.unusedVariables false
set_option linter.unusedSimpArgs false

/-! ### frisketlaw05_ClusterEach: function 6 -/
mutual
def frisketlaw05_ClusterEach.j0 : Nat → List Int → List Int → Bool → Option (Bool)
  | 0, _, _, _ => none
  | k + 1, x0, x3, x39 => if x39 = true then (some false) else (frisketlaw05_ClusterEach.l0 k x0 x3 0)
def frisketlaw05_ClusterEach.l0 : Nat → List Int → List Int → Int → Option (Bool)
  | 0, _, _, _ => none
  | k + 1, x0, x3, x4 => if x4 < (x3.length : Int) then (if (wrap64 (x4 + 1)) < (x3.length : Int) then (if 0 ≤ (wrap64 (x4 + 1)) then (frisketlaw05_ClusterEach.j2 k x0 x3 x4 (rd x3 (wrap64 (x4 + 1)))) else (none)) else (frisketlaw05_ClusterEach.j2 k x0 x3 x4 (x0.length : Int))) else ((frisketlaw05_alive.f k).bind fun t218 => (some t218))
def frisketlaw05_ClusterEach.j2 : Nat → List Int → List Int → Int → Int → Option (Bool)
  | 0, _, _, _, _ => none
  | k + 1, x0, x3, x4, x5 => if 0 ≤ x4 then (if x4 < (x3.length : Int) then (if x5 ≤ (rd x3 x4) then (some false) else (if x5 = (wrap64 ((rd x3 x4) + 2)) then (if 0 ≤ (rd x3 x4) then (if (rd x3 x4) < (x0.length : Int) then (if (rd x0 (rd x3 x4)) = 1 then (if 0 ≤ (wrap64 ((rd x3 x4) + 1)) then (if (wrap64 ((rd x3 x4) + 1)) < (x0.length : Int) then (frisketlaw05_ClusterEach.j3 k x0 x3 x4 x5 ((rd x0 (wrap64 ((rd x3 x4) + 1))) == 2)) else (none)) else (none)) else (frisketlaw05_ClusterEach.j3 k x0 x3 x4 x5 false)) else (none)) else (none)) else (frisketlaw05_ClusterEach.j3 k x0 x3 x4 x5 false))) else (none)) else (none)
def frisketlaw05_ClusterEach.j3 : Nat → List Int → List Int → Int → Int → Bool → Option (Bool)
  | 0, _, _, _, _, _ => none
  | k + 1, x0, x3, x4, x5, x6 => if 0 ≤ x4 then (if x4 < (x3.length : Int) then (frisketlaw05_ClusterEach.l1 k x0 x3 x4 x5 x6 (rd x3 x4)) else (none)) else (none)
def frisketlaw05_ClusterEach.l1 : Nat → List Int → List Int → Int → Int → Bool → Int → Option (Bool)
  | 0, _, _, _, _, _, _ => none
  | k + 1, x0, x3, x4, x5, x6, x7 => if x7 < x5 then (if 0 ≤ x7 then (if x7 < (x0.length : Int) then (if (rd x0 x7) = 1 then (if 0 ≤ x4 then (if x4 < (x3.length : Int) then (if x5 > (wrap64 ((rd x3 x4) + 1)) then (if x6 = true then ((cluster_Of.f k x3 x7).bind fun t229 => (if t229 = x4 then (frisketlaw05_ClusterEach.l1 k x0 x3 x4 x5 x6 (wrap64 (x7 + 1))) else (some false))) else (some false)) else ((cluster_Of.f k x3 x7).bind fun t230 => (if t230 = x4 then (frisketlaw05_ClusterEach.l1 k x0 x3 x4 x5 x6 (wrap64 (x7 + 1))) else (some false)))) else (none)) else (none)) else (if (rd x0 x7) = 2 then (if 0 ≤ x4 then (if x4 < (x3.length : Int) then (if x5 > (wrap64 ((rd x3 x4) + 1)) then (if x6 = true then ((cluster_Of.f k x3 x7).bind fun t233 => (if t233 = x4 then (frisketlaw05_ClusterEach.l1 k x0 x3 x4 x5 x6 (wrap64 (x7 + 1))) else (some false))) else (some false)) else ((cluster_Of.f k x3 x7).bind fun t234 => (if t234 = x4 then (frisketlaw05_ClusterEach.l1 k x0 x3 x4 x5 x6 (wrap64 (x7 + 1))) else (some false)))) else (none)) else (none)) else (if (rd x0 x7) = 3 then (if 0 ≤ x4 then (if x4 < (x3.length : Int) then (if x5 > (wrap64 ((rd x3 x4) + 1)) then (if x6 = true then ((cluster_Of.f k x3 x7).bind fun t237 => (if t237 = x4 then (frisketlaw05_ClusterEach.l1 k x0 x3 x4 x5 x6 (wrap64 (x7 + 1))) else (some false))) else (some false)) else ((cluster_Of.f k x3 x7).bind fun t238 => (if t238 = x4 then (frisketlaw05_ClusterEach.l1 k x0 x3 x4 x5 x6 (wrap64 (x7 + 1))) else (some false)))) else (none)) else (none)) else ((cluster_Of.f k x3 x7).bind fun t239 => (if t239 = x4 then (frisketlaw05_ClusterEach.l1 k x0 x3 x4 x5 x6 (wrap64 (x7 + 1))) else (some false)))))) else (none)) else (none)) else (frisketlaw05_ClusterEach.l0 k x0 x3 (wrap64 (x4 + 1)))
end
def frisketlaw05_ClusterEach.f (k : Nat) (l0 : List Int) : Option (Bool) := if (l0.length : Int) > 120 then ((frisketlaw05_alive.f k).bind fun t212 => (some t212)) else ((cluster_Starts.f l0).bind fun t213 => (if (l0.length : Int) = 0 then ((frisketlaw05_alive.f k).bind fun t216 => (if t216 = true then (some ((t213.length : Int) == 0)) else (some false))) else (if (t213.length : Int) = 0 then (frisketlaw05_ClusterEach.j0 k l0 t213 true) else (if 0 < (t213.length : Int) then (if (rd t213 0) = 0 then (frisketlaw05_ClusterEach.j0 k l0 t213 (decide ((t213.length : Int) > (l0.length : Int)))) else (frisketlaw05_ClusterEach.j0 k l0 t213 true)) else (none)))))
theorem frisketlaw05_ClusterEach.mono_l : ∀ k, (∀ y0 y1 y2, LeO (frisketlaw05_ClusterEach.j0 k y0 y1 y2) (frisketlaw05_ClusterEach.j0 (k + 1) y0 y1 y2)) ∧ (∀ y0 y1 y2, LeO (frisketlaw05_ClusterEach.l0 k y0 y1 y2) (frisketlaw05_ClusterEach.l0 (k + 1) y0 y1 y2)) ∧ (∀ y0 y1 y2 y3, LeO (frisketlaw05_ClusterEach.j2 k y0 y1 y2 y3) (frisketlaw05_ClusterEach.j2 (k + 1) y0 y1 y2 y3)) ∧ (∀ y0 y1 y2 y3 y4, LeO (frisketlaw05_ClusterEach.j3 k y0 y1 y2 y3 y4) (frisketlaw05_ClusterEach.j3 (k + 1) y0 y1 y2 y3 y4)) ∧ (∀ y0 y1 y2 y3 y4 y5, LeO (frisketlaw05_ClusterEach.l1 k y0 y1 y2 y3 y4 y5) (frisketlaw05_ClusterEach.l1 (k + 1) y0 y1 y2 y3 y4 y5))
  | 0 => ⟨fun _ _ _ r h => by simp [frisketlaw05_ClusterEach.j0] at h, fun _ _ _ r h => by simp [frisketlaw05_ClusterEach.l0] at h, fun _ _ _ _ r h => by simp [frisketlaw05_ClusterEach.j2] at h, fun _ _ _ _ _ r h => by simp [frisketlaw05_ClusterEach.j3] at h, fun _ _ _ _ _ _ r h => by simp [frisketlaw05_ClusterEach.l1] at h⟩
  | k + 1 => by
    obtain ⟨ih0, ih1, ih2, ih3, ih4⟩ := frisketlaw05_ClusterEach.mono_l k
    refine ⟨?_, ?_, ?_, ?_, ?_⟩
    · intro y0 y1 y2
      unfold frisketlaw05_ClusterEach.j0
      repeat' first
      | (with_reducible exact ih0 _ _ _)
      | (with_reducible exact ih1 _ _ _)
      | (with_reducible exact ih2 _ _ _ _)
      | (with_reducible exact ih3 _ _ _ _ _)
      | (with_reducible exact ih4 _ _ _ _ _ _)
      | (with_reducible exact cluster_Of.mono _ _ _)
      | (with_reducible exact frisketlaw05_alive.mono _)
      | (with_reducible exact LeO.refl _)
      | (with_reducible exact LeO.none _)
      | (with_reducible refine LeO.ite ?_ ?_)
      | (with_reducible refine LeO.bind ?_ (fun _ => ?_))
      | exact ih0 _ _ _
      | exact ih1 _ _ _
      | exact ih2 _ _ _ _
      | exact ih3 _ _ _ _ _
      | exact ih4 _ _ _ _ _ _
      | exact cluster_Of.mono _ _ _
      | exact frisketlaw05_alive.mono _
      | exact LeO.none _
      | refine LeO.ite ?_ ?_
      | refine LeO.bind ?_ (fun _ => ?_)
    · intro y0 y1 y2
      unfold frisketlaw05_ClusterEach.l0
      repeat' first
      | (with_reducible exact ih0 _ _ _)
      | (with_reducible exact ih1 _ _ _)
      | (with_reducible exact ih2 _ _ _ _)
      | (with_reducible exact ih3 _ _ _ _ _)
      | (with_reducible exact ih4 _ _ _ _ _ _)
      | (with_reducible exact cluster_Of.mono _ _ _)
      | (with_reducible exact frisketlaw05_alive.mono _)
      | (with_reducible exact LeO.refl _)
      | (with_reducible exact LeO.none _)
      | (with_reducible refine LeO.ite ?_ ?_)
      | (with_reducible refine LeO.bind ?_ (fun _ => ?_))
      | exact ih0 _ _ _
      | exact ih1 _ _ _
      | exact ih2 _ _ _ _
      | exact ih3 _ _ _ _ _
      | exact ih4 _ _ _ _ _ _
      | exact cluster_Of.mono _ _ _
      | exact frisketlaw05_alive.mono _
      | exact LeO.none _
      | refine LeO.ite ?_ ?_
      | refine LeO.bind ?_ (fun _ => ?_)
    · intro y0 y1 y2 y3
      unfold frisketlaw05_ClusterEach.j2
      repeat' first
      | (with_reducible exact ih0 _ _ _)
      | (with_reducible exact ih1 _ _ _)
      | (with_reducible exact ih2 _ _ _ _)
      | (with_reducible exact ih3 _ _ _ _ _)
      | (with_reducible exact ih4 _ _ _ _ _ _)
      | (with_reducible exact cluster_Of.mono _ _ _)
      | (with_reducible exact frisketlaw05_alive.mono _)
      | (with_reducible exact LeO.refl _)
      | (with_reducible exact LeO.none _)
      | (with_reducible refine LeO.ite ?_ ?_)
      | (with_reducible refine LeO.bind ?_ (fun _ => ?_))
      | exact ih0 _ _ _
      | exact ih1 _ _ _
      | exact ih2 _ _ _ _
      | exact ih3 _ _ _ _ _
      | exact ih4 _ _ _ _ _ _
      | exact cluster_Of.mono _ _ _
      | exact frisketlaw05_alive.mono _
      | exact LeO.none _
      | refine LeO.ite ?_ ?_
      | refine LeO.bind ?_ (fun _ => ?_)
    · intro y0 y1 y2 y3 y4
      unfold frisketlaw05_ClusterEach.j3
      repeat' first
      | (with_reducible exact ih0 _ _ _)
      | (with_reducible exact ih1 _ _ _)
      | (with_reducible exact ih2 _ _ _ _)
      | (with_reducible exact ih3 _ _ _ _ _)
      | (with_reducible exact ih4 _ _ _ _ _ _)
      | (with_reducible exact cluster_Of.mono _ _ _)
      | (with_reducible exact frisketlaw05_alive.mono _)
      | (with_reducible exact LeO.refl _)
      | (with_reducible exact LeO.none _)
      | (with_reducible refine LeO.ite ?_ ?_)
      | (with_reducible refine LeO.bind ?_ (fun _ => ?_))
      | exact ih0 _ _ _
      | exact ih1 _ _ _
      | exact ih2 _ _ _ _
      | exact ih3 _ _ _ _ _
      | exact ih4 _ _ _ _ _ _
      | exact cluster_Of.mono _ _ _
      | exact frisketlaw05_alive.mono _
      | exact LeO.none _
      | refine LeO.ite ?_ ?_
      | refine LeO.bind ?_ (fun _ => ?_)
    · intro y0 y1 y2 y3 y4 y5
      unfold frisketlaw05_ClusterEach.l1
      repeat' first
      | (with_reducible exact ih0 _ _ _)
      | (with_reducible exact ih1 _ _ _)
      | (with_reducible exact ih2 _ _ _ _)
      | (with_reducible exact ih3 _ _ _ _ _)
      | (with_reducible exact ih4 _ _ _ _ _ _)
      | (with_reducible exact cluster_Of.mono _ _ _)
      | (with_reducible exact frisketlaw05_alive.mono _)
      | (with_reducible exact LeO.refl _)
      | (with_reducible exact LeO.none _)
      | (with_reducible refine LeO.ite ?_ ?_)
      | (with_reducible refine LeO.bind ?_ (fun _ => ?_))
      | exact ih0 _ _ _
      | exact ih1 _ _ _
      | exact ih2 _ _ _ _
      | exact ih3 _ _ _ _ _
      | exact ih4 _ _ _ _ _ _
      | exact cluster_Of.mono _ _ _
      | exact frisketlaw05_alive.mono _
      | exact LeO.none _
      | refine LeO.ite ?_ ?_
      | refine LeO.bind ?_ (fun _ => ?_)
theorem frisketlaw05_ClusterEach.mono : ∀ a0 k, LeO (frisketlaw05_ClusterEach.f k a0) (frisketlaw05_ClusterEach.f (k + 1) a0) := by
  intro a0 k
  obtain ⟨ih0, ih1, ih2, ih3, ih4⟩ := frisketlaw05_ClusterEach.mono_l k
  unfold frisketlaw05_ClusterEach.f
  repeat' first
      | (with_reducible exact ih0 _ _ _)
      | (with_reducible exact ih1 _ _ _)
      | (with_reducible exact ih2 _ _ _ _)
      | (with_reducible exact ih3 _ _ _ _ _)
      | (with_reducible exact ih4 _ _ _ _ _ _)
      | (with_reducible exact cluster_Of.mono _ _ _)
      | (with_reducible exact frisketlaw05_alive.mono _)
      | (with_reducible exact LeO.refl _)
      | (with_reducible exact LeO.none _)
      | (with_reducible refine LeO.ite ?_ ?_)
      | (with_reducible refine LeO.bind ?_ (fun _ => ?_))
      | exact ih0 _ _ _
      | exact ih1 _ _ _
      | exact ih2 _ _ _ _
      | exact ih3 _ _ _ _ _
      | exact ih4 _ _ _ _ _ _
      | exact cluster_Of.mono _ _ _
      | exact frisketlaw05_alive.mono _
      | exact LeO.none _
      | refine LeO.ite ?_ ?_
      | refine LeO.bind ?_ (fun _ => ?_)
set_option maxHeartbeats 8000000 in
set_option maxRecDepth 100000 in
theorem frisketlaw05_ClusterEach.calls (k : Nat) (A0 : Option Addr) (c0 : Nat) (l0 : List Int) (r : Bool) (w : World) (hr0 : Kd.C (Kd.int .i64) w A0 l0.length l0) (hc0 : l0.length ≤ c0) (hrt : r = true) (h : frisketlaw05_ClusterEach.f k l0 = some r) :
    Calls Try.prog 6 #[.slice A0 l0.length c0] w fun e w' => e = .returned (.bool r) ∧ Below w.heap.size w w' := by
  have HR0 := Aside0.mk hr0
  have HC0 := Aside0.mk hc0
  clear hr0 hc0
  have HB := Aside0.mk (Below.refl w.heap.size w)
  have HRT := Aside0.mk hrt
  clear hrt
  have H : (if (l0.length : Int) > 120 then ((frisketlaw05_alive.f k).bind fun t212 => (some t212)) else ((cluster_Starts.f l0).bind fun t213 => (if (l0.length : Int) = 0 then ((frisketlaw05_alive.f k).bind fun t216 => (if t216 = true then (some ((t213.length : Int) == 0)) else (some false))) else (if (t213.length : Int) = 0 then (frisketlaw05_ClusterEach.j0 k l0 t213 true) else (if 0 < (t213.length : Int) then (if (rd t213 0) = 0 then (frisketlaw05_ClusterEach.j0 k l0 t213 (decide ((t213.length : Int) > (l0.length : Int)))) else (frisketlaw05_ClusterEach.j0 k l0 t213 true)) else (none)))))) = some r := h
  clear h
  by_cases c2 : (l0.length : Int) > 120
  · rw [if_pos c2] at H
    have c2b0 : decide (120 < (l0.length : Int)) = true := decide_eq_true c2
    have c2b1 : decide (120 < l0.length) = true := decide_eq_true (by omega)
    clear c2
    replace H := Option.bind_eq_some_iff.mp H
    obtain ⟨t212, A30, H⟩ := H
    replace H : (some t212) = some r := H
    have A3 := Aside0.mk A30
    clear A30
    obtain rfl := Option.some.inj H
    go_enter Try.func6, Try.ntmps6
    go_wp2_with (first | ((with_reducible refine gate_callee (f := 7) rfl ?_); refine goesL_ (some 12) rfl rfl Try.func7 (by kernel_rfl) rfl #[] rfl (by (try simp only [List.map_toArray, List.map_cons, List.map_nil]); first | done | rfl | (simp only [List.length_drop, List.length_take]; rfl)) ?_; (with_reducible refine (frisketlaw05_alive.calls k  t212 _ A3.out).mono ?_); rintro e w4 ⟨rfl, hb⟩; refine ⟨_, rfl, ?_⟩; have n0_ := Aside0.mk (below_step (by repeat (first | (with_reducible first | exact HB.out | apply below_alloc | apply pw_below_drewN | apply below_drew1) | exact HB.out)) hb); clear HB; have HB := n0_; clear n0_; (try clear hb); (try clear hb2); (try clear hk); (try clear hi)))
    go_ret
    exact ⟨by first | rfl | (simp [errW_none, errW_some] <;> rfl) | (simp [*, errW_none, errW_some] <;> rfl), by repeat (first | (with_reducible first | exact HB.out | apply below_alloc | apply pw_below_drewN | apply below_drew1) | exact HB.out)⟩
  · rw [if_neg c2] at H
    have c2b0 : decide (120 < (l0.length : Int)) = false := decide_eq_false c2
    have c2b1 : decide (120 < l0.length) = false := decide_eq_false (by omega)
    clear c2
    replace H := Option.bind_eq_some_iff.mp H
    obtain ⟨t213, A50, H⟩ := H
    replace H : (if (l0.length : Int) = 0 then ((frisketlaw05_alive.f k).bind fun t216 => (if t216 = true then (some ((t213.length : Int) == 0)) else (some false))) else (if (t213.length : Int) = 0 then (frisketlaw05_ClusterEach.j0 k l0 t213 true) else (if 0 < (t213.length : Int) then (if (rd t213 0) = 0 then (frisketlaw05_ClusterEach.j0 k l0 t213 (decide ((t213.length : Int) > (l0.length : Int)))) else (frisketlaw05_ClusterEach.j0 k l0 t213 true)) else (none)))) = some r := H
    have A5 := Aside0.mk A50
    clear A50
    by_cases c6 : (l0.length : Int) = 0
    · rw [if_pos c6] at H
      have c6b0 : ((l0.length : Int) == 0) = true := beq_iff_eq.mpr c6
      have c6b1 : ((l0.length : Int) != 0) = false := bne_eq_false_iff_eq.mpr c6
      clear c6
      replace H := Option.bind_eq_some_iff.mp H
      obtain ⟨t216, A70, H⟩ := H
      replace H : (if t216 = true then (some ((t213.length : Int) == 0)) else (some false)) = some r := H
      have A7 := Aside0.mk A70
      clear A70
      by_cases c8 : t216 = true
      · subst c8
        have H1 : (some ((t213.length : Int) == 0)) = some r := by rw [if_pos rfl] at H; exact H
        clear H
        have H := H1
        clear H1
        obtain rfl := Option.some.inj H
        go_enter Try.func6, Try.ntmps6
        go_wp2_with (first | ((with_reducible refine gate_callee (f := 8) rfl ?_); refine goesL_ (some 14) rfl rfl Try.func8 (by kernel_rfl) rfl #[.slice A0 l0.length c0] rfl (by (try simp only [List.map_toArray, List.map_cons, List.map_nil]); first | done | rfl | (simp only [List.length_drop, List.length_take]; rfl)) ?_; (with_reducible refine (cluster_Starts.calls _ _ l0 t213 _ ?side1 ?side2 A5.out).mono ?_); (case side1 => repeat (first | exact HR0.out | (with_reducible refine Kd.C_alloc ?_ _) | (with_reducible refine Kd.C_drewN ?_ _) | (with_reducible refine Kd.C_drew ?_))); (case side2 => exact HC0.out); rintro e w9 ⟨v214, rfl, ho0, hb⟩; refine ⟨_, rfl, ?_⟩; have n0_ := Aside0.mk (Kd.R_lower ho0 (below_size (by repeat (first | (with_reducible first | exact HB.out | apply below_alloc | apply pw_below_drewN | apply below_drew1) | exact HB.out)))); have n1_ := Aside0.mk (below_step (by repeat (first | (with_reducible first | exact HB.out | apply below_alloc | apply pw_below_drewN | apply below_drew1) | exact HB.out)) hb); clear HB; have HO215 := n0_; have HB := n1_; clear n0_ n1_; (try clear hb); (try clear hb2); (try clear hk); (try clear hi); (try clear ho0)) | ((with_reducible refine gate_callee (f := 7) rfl ?_); refine goesL_ (some 18) rfl rfl Try.func7 (by kernel_rfl) rfl #[] rfl (by (try simp only [List.map_toArray, List.map_cons, List.map_nil]); first | done | rfl | (simp only [List.length_drop, List.length_take]; rfl)) ?_; (with_reducible refine (frisketlaw05_alive.calls k  true _ A7.out).mono ?_); rintro e w10 ⟨rfl, hb⟩; refine ⟨_, rfl, ?_⟩; have n0_ := Aside0.mk (Kd.R_below (by (with_reducible repeat (first | apply Kd.R_alloc | apply Kd.R_drewN | apply Kd.R_drew)); exact HO215.out) hb); have n1_ := Aside0.mk (below_step (by repeat (first | (with_reducible first | exact HB.out | apply below_alloc | apply pw_below_drewN | apply below_drew1) | exact HB.out)) hb); clear HO215; clear HB; have HO215 := n0_; have HB := n1_; clear n0_ n1_; (try clear hb); (try clear hb2); (try clear hk); (try clear hi); obtain ⟨Ao11, co11, eo11⟩ := Kd.R_slice HO215.out; subst eo11))
        go_ret
        exact ⟨by first | rfl | (simp [errW_none, errW_some] <;> rfl) | (simp [*, errW_none, errW_some] <;> rfl), by repeat (first | (with_reducible first | exact HB.out | apply below_alloc | apply pw_below_drewN | apply below_drew1) | exact HB.out)⟩
      · replace c8 := Bool.eq_false_iff.mpr c8
        subst c8
        have H1 : (some false) = some r := by rw [if_neg (show ¬ (false = true) by decide)] at H; exact H
        clear H
        have H := H1
        clear H1
        exact af_absurd HRT.out H (by repeat (first | exact AF.none | exact AF.false | refine AF.ite ?_ ?_ | refine AF.bind (fun _ => ?_)))
    · rw [if_neg c6] at H
      have c6b0 : ((l0.length : Int) == 0) = false := beq_eq_false_iff_ne.mpr c6
      have c6b1 : ((l0.length : Int) != 0) = true := bne_iff_ne.mpr c6
      have c6b2 : ¬ (l0 = []) := fun h_ => c6 (by rw [h_]; rfl)
      have HC12 := Aside0.mk H
      clear H
      go_enter Try.func6, Try.ntmps6
      go_upto_region 6 with (first | ((with_reducible refine gate_callee (f := 8) rfl ?_); refine goesL_ (some 14) rfl rfl Try.func8 (by kernel_rfl) rfl #[.slice A0 l0.length c0] rfl (by (try simp only [List.map_toArray, List.map_cons, List.map_nil]); first | done | rfl | (simp only [List.length_drop, List.length_take]; rfl)) ?_; (with_reducible refine (cluster_Starts.calls _ _ l0 t213 _ ?side1 ?side2 A5.out).mono ?_); (case side1 => repeat (first | exact HR0.out | (with_reducible refine Kd.C_alloc ?_ _) | (with_reducible refine Kd.C_drewN ?_ _) | (with_reducible refine Kd.C_drew ?_))); (case side2 => exact HC0.out); rintro e w13 ⟨v214, rfl, ho0, hb⟩; refine ⟨_, rfl, ?_⟩; have n0_ := Aside0.mk (Kd.R_lower ho0 (below_size (by repeat (first | (with_reducible first | exact HB.out | apply below_alloc | apply pw_below_drewN | apply below_drew1) | exact HB.out)))); have n1_ := Aside0.mk (below_step (by repeat (first | (with_reducible first | exact HB.out | apply below_alloc | apply pw_below_drewN | apply below_drew1) | exact HB.out)) hb); clear HB; have HO215 := n0_; have HB := n1_; clear n0_ n1_; (try clear hb); (try clear hb2); (try clear hk); (try clear hi); (try clear ho0)))
      (try simp only [Act.put, List.setIfInBounds_toArray, List.set_cons_zero, List.set_cons_succ])
      go_cut [39] (fun v39 wc => ∃ (kq : Nat) (x39_11 : Bool), v39 = .bool x39_11 ∧ Aside0 (frisketlaw05_ClusterEach.j0 kq l0 t213 x39_11 = some r) ∧ Aside0 (kq ≤ k) ∧ Aside0 (Kd.R (Kd.int .i64) 3 wc w.heap.size (fun _ => True) v214 t213) ∧ Aside0 (Below w.heap.size w wc))
      case first =>
        have H := HC12.out
        clear HC12
        by_cases c14 : (t213.length : Int) = 0
        · rw [if_pos c14] at H
          have c14b0 : ((t213.length : Int) == 0) = true := beq_iff_eq.mpr c14
          have c14b1 : ((t213.length : Int) != 0) = false := bne_eq_false_iff_eq.mpr c14
          clear c14
          (first | rw [c14b0] | (simp only [i64_w, i32_w]; rw [c14b0]) | skip)
          have H' := Aside0.mk H
          clear H
          obtain ⟨Ao15, co15, eo15⟩ := Kd.R_slice HO215.out
          subst eo15
          go_wp2
          go_meet
          case rel => exact ⟨_, (true), (by first | rfl | (simp; done) | (simp [*]; done)), H', ⟨by first | omega | exact Nat.le_refl _⟩, ⟨by (with_reducible repeat (first | apply Kd.R_alloc | apply Kd.R_drewN | apply Kd.R_drew)); exact HO215.out⟩, ⟨by repeat (first | (with_reducible first | exact HB.out | apply below_alloc | apply pw_below_drewN | apply below_drew1) | exact HB.out)⟩⟩
        · rw [if_neg c14] at H
          have c14b0 : ((t213.length : Int) == 0) = false := beq_eq_false_iff_ne.mpr c14
          have c14b1 : ((t213.length : Int) != 0) = true := bne_iff_ne.mpr c14
          have c14b2 : ¬ (t213 = []) := fun h_ => c14 (by rw [h_]; rfl)
          (first | rw [c14b0] | (simp only [i64_w, i32_w]; rw [c14b0]) | skip)
          by_cases c16 : 0 < (t213.length : Int)
          · rw [if_pos c16] at H
            have c16b0 : decide (0 < (t213.length : Int)) = true := decide_eq_true c16
            have c16b1 : decide (0 < t213.length) = true := decide_eq_true (by omega)
            clear c16
            by_cases c17 : (rd t213 0) = 0
            · rw [if_pos c17] at H
              have c17b0 : ((rd t213 0) == 0) = true := beq_iff_eq.mpr c17
              have c17b1 : ((rd t213 0) != 0) = false := bne_eq_false_iff_eq.mpr c17
              clear c17
              have H' := Aside0.mk H
              clear H
              obtain ⟨Ao18, co18, eo18⟩ := Kd.R_slice HO215.out
              subst eo18
              have p217 : 0 ≤ (0 : Int) := (by omega)
              have q217 : 0 < (t213.length : Int) := of_decide_eq_true (by first | (with_reducible assumption) | assumption)
              obtain ⟨ad217, e217, hx217_0⟩ := Kd.at_int (Kd.R_reads' HO215.out).2.2 0 p217 q217
              cases e217
              have qi217 : (0 < t213.length) = True := eq_true (by omega)
              (try rw [show ((0 : Int)).toNat = 0 from rfl] at hx217_0)
              (try rw [Addr.add_zero'] at hx217_0)
              replace p217 := eq_true p217
              replace q217 := eq_true q217
              go_wp2
              go_meet
              case rel => exact ⟨_, (decide ((t213.length : Int) > (l0.length : Int))), (by first | rfl | (simp; done) | (simp [*]; done)), H', ⟨by first | omega | exact Nat.le_refl _⟩, ⟨by (with_reducible repeat (first | apply Kd.R_alloc | apply Kd.R_drewN | apply Kd.R_drew)); exact HO215.out⟩, ⟨by repeat (first | (with_reducible first | exact HB.out | apply below_alloc | apply pw_below_drewN | apply below_drew1) | exact HB.out)⟩⟩
            · rw [if_neg c17] at H
              have c17b0 : ((rd t213 0) == 0) = false := beq_eq_false_iff_ne.mpr c17
              have c17b1 : ((rd t213 0) != 0) = true := bne_iff_ne.mpr c17
              have H' := Aside0.mk H
              clear H
              obtain ⟨Ao19, co19, eo19⟩ := Kd.R_slice HO215.out
              subst eo19
              have p217 : 0 ≤ (0 : Int) := (by omega)
              have q217 : 0 < (t213.length : Int) := of_decide_eq_true (by first | (with_reducible assumption) | assumption)
              obtain ⟨ad217, e217, hx217_0⟩ := Kd.at_int (Kd.R_reads' HO215.out).2.2 0 p217 q217
              cases e217
              have qi217 : (0 < t213.length) = True := eq_true (by omega)
              (try rw [show ((0 : Int)).toNat = 0 from rfl] at hx217_0)
              (try rw [Addr.add_zero'] at hx217_0)
              replace p217 := eq_true p217
              replace q217 := eq_true q217
              go_wp2
              go_meet
              case rel => exact ⟨_, (true), (by first | rfl | (simp; done) | (simp [*]; done)), H', ⟨by first | omega | exact Nat.le_refl _⟩, ⟨by (with_reducible repeat (first | apply Kd.R_alloc | apply Kd.R_drewN | apply Kd.R_drew)); exact HO215.out⟩, ⟨by repeat (first | (with_reducible first | exact HB.out | apply below_alloc | apply pw_below_drewN | apply below_drew1) | exact HB.out)⟩⟩
          · rw [if_neg c16] at H
            exact absurd H (by simp)
      case rest =>
        clear HC12
        try clear c1
        try clear c2
        try clear c2b0
        try clear c2b1
        try clear p2
        try clear q2
        try clear hx2
        try clear qi2
        try clear c6
        try clear c6b0
        try clear c6b1
        try clear c6b2
        try clear c7
        try clear c8
        try clear c14
        try clear c14b0
        try clear c14b1
        try clear c14b2
        try clear c16
        try clear c16b0
        try clear c16b1
        try clear c17
        try clear c17b0
        try clear c17b1
        try clear hx217_0
        try clear p217
        try clear q217
        obtain ⟨kq, x39_11, rfl, HA, HJ11, HO_3, HB⟩ := hcut
        cases kq with
        | zero => exact absurd HA.out (by simp [frisketlaw05_ClusterEach.j0])
        | succ kj11 =>
          have H := HA.out
          clear HA
          simp only [frisketlaw05_ClusterEach.j0] at H
          by_cases c20 : x39_11 = true
          · subst c20
            have H1 : (some false) = some r := by rw [if_pos rfl] at H; exact H
            clear H
            have H := H1
            clear H1
            exact af_absurd HRT.out H (by repeat (first | exact AF.none | exact AF.false | refine AF.ite ?_ ?_ | refine AF.bind (fun _ => ?_)))
          · replace c20 := Bool.eq_false_iff.mpr c20
            subst c20
            have H1 : (frisketlaw05_ClusterEach.l0 kj11 l0 t213 0) = some r := by rw [if_neg (show ¬ (false = true) by decide)] at H; exact H
            clear H
            have H := H1
            clear H1
            have H' := Aside0.mk H
            clear H
            go_wp2
            go_loopg [4] kj11 (fun kq v4 w' => ∃ (x4_2 : Int), v4 = .int .i64 x4_2 ∧ Aside0 (frisketlaw05_ClusterEach.l0 kq l0 t213 x4_2 = some r) ∧ Aside0 (kq ≤ kj11) ∧ Aside0 (Kd.R (Kd.int .i64) 3 w' w.heap.size (fun _ => True) v214 t213) ∧ Aside0 (Below w.heap.size w w'))
            case atStart => exact ⟨(0), (by first | rfl | (simp; done) | (simp [*]; done)), H', ⟨Nat.le_refl _⟩, ⟨by (with_reducible repeat (first | apply Kd.R_alloc | apply Kd.R_drewN | apply Kd.R_drew)); exact HO_3.out⟩, ⟨by repeat (first | (with_reducible first | exact HB.out | apply below_alloc | apply pw_below_drewN | apply below_drew1) | exact HB.out)⟩⟩
            case round =>
              clear H'
              try clear c1
              try clear c2
              try clear c2b0
              try clear c2b1
              try clear p2
              try clear q2
              try clear hx2
              try clear qi2
              try clear c6
              try clear c6b0
              try clear c6b1
              try clear c6b2
              try clear c7
              try clear c8
              try clear c14
              try clear c14b0
              try clear c14b1
              try clear c14b2
              try clear c16
              try clear c16b0
              try clear c16b1
              try clear c17
              try clear c17b0
              try clear c17b1
              try clear c20
              try clear hx217_0
              try clear p2
              try clear p217
              try clear q2
              try clear q217
              obtain ⟨x4_2, rfl, HA, HK2, HO_3, HB⟩ := hrel
              cases gk with
              | zero => exact absurd HA.out (by simp [frisketlaw05_ClusterEach.l0])
              | succ k2 =>
                have H := HA.out
                clear HA
                simp only [frisketlaw05_ClusterEach.l0] at H
                by_cases c21 : x4_2 < (t213.length : Int)
                · rw [if_pos c21] at H
                  have c21b0 : decide (x4_2 < (t213.length : Int)) = true := decide_eq_true c21
                  clear c21
                  have HC22 := Aside0.mk H
                  clear H
                  obtain ⟨Ao23, co23, eo23⟩ := Kd.R_slice HO_3.out
                  subst eo23
                  go_upto_if 52 with (fail)
                  go_cut [5] (fun v5 wc => ∃ (kq : Nat) (x5_21 : Int), v5 = .int .i64 x5_21 ∧ Aside0 (frisketlaw05_ClusterEach.j2 kq l0 t213 x4_2 x5_21 = some r) ∧ Aside0 (kq ≤ k2) ∧ Aside0 (Kd.R (Kd.int .i64) 3 wc w.heap.size (fun _ => True) (.slice Ao23 t213.length co23) t213) ∧ Aside0 (Below w.heap.size w wc))
                  case first =>
                    have H := HC22.out
                    clear HC22
                    by_cases c24 : (wrap64 (x4_2 + 1)) < (t213.length : Int)
                    · rw [if_pos c24] at H
                      have c24b0 : decide ((wrap64 (x4_2 + 1)) < (t213.length : Int)) = true := decide_eq_true c24
                      clear c24
                      (first | rw [c24b0] | (simp only [i64_w, i32_w]; rw [c24b0]) | skip)
                      obtain ⟨ji25, hji25⟩ : ∃ j_ : Int, (wrap64 (x4_2 + 1)) = j_ := ⟨_, rfl⟩
                      replace H : (if 0 ≤ (ji25) then (frisketlaw05_ClusterEach.j2 k2 l0 t213 x4_2 (rd t213 (ji25))) else (none)) = some r := by first | (rw [hji25] at H; exact H) | (simp only [hji25] at H ⊢; exact H)
                      (try rw [hji25] at c24b0)
                      have hji25w : (IntKind.i64.wrap (x4_2 + 1)) = ji25 := (i64_w _).trans hji25
                      by_cases c26 : 0 ≤ (ji25)
                      · rw [if_pos c26] at H
                        have c26b0 : decide (0 ≤ (ji25)) = true := decide_eq_true c26
                        clear c26
                        have H' := Aside0.mk H
                        clear H
                        have p219 : 0 ≤ ((ji25) : Int) := of_decide_eq_true (by first | (with_reducible assumption) | assumption)
                        have q219 : (ji25) < (t213.length : Int) := of_decide_eq_true (by first | (with_reducible assumption) | assumption)
                        obtain ⟨ad219, e219, hx219_0⟩ := Kd.at_int (Kd.R_reads' HO_3.out).2.2 (ji25) p219 q219
                        cases e219
                        replace p219 := eq_true p219
                        replace q219 := eq_true q219
                        go_wp2
                        go_meet
                        case rel => exact ⟨_, (rd t213 (ji25)), (by first | rfl | (simp; done) | (simp only [← hji25] <;> (first | rfl | simp)) | (simp [*]; done)), H', ⟨by have := HJ11.out; have := HK2.out; first | omega | exact Nat.le_refl _⟩, ⟨by (with_reducible repeat (first | apply Kd.R_alloc | apply Kd.R_drewN | apply Kd.R_drew)); exact HO_3.out⟩, ⟨by repeat (first | (with_reducible first | exact HB.out | apply below_alloc | apply pw_below_drewN | apply below_drew1) | exact HB.out)⟩⟩
                      · rw [if_neg c26] at H
                        exact absurd H (by simp)
                    · rw [if_neg c24] at H
                      have c24b0 : decide ((wrap64 (x4_2 + 1)) < (t213.length : Int)) = false := decide_eq_false c24
                      clear c24
                      (first | rw [c24b0] | (simp only [i64_w, i32_w]; rw [c24b0]) | skip)
                      have H' := Aside0.mk H
                      clear H
                      go_wp2
                      go_meet
                      case rel => exact ⟨_, ((l0.length : Int)), (by first | rfl | (simp; done) | (simp [*]; done)), H', ⟨by have := HJ11.out; have := HK2.out; first | omega | exact Nat.le_refl _⟩, ⟨by (with_reducible repeat (first | apply Kd.R_alloc | apply Kd.R_drewN | apply Kd.R_drew)); exact HO_3.out⟩, ⟨by repeat (first | (with_reducible first | exact HB.out | apply below_alloc | apply pw_below_drewN | apply below_drew1) | exact HB.out)⟩⟩
                  case rest =>
                    clear HC22
                    try clear c1
                    try clear c2
                    try clear c2b0
                    try clear c2b1
                    try clear p2
                    try clear q2
                    try clear hx2
                    try clear qi2
                    try clear c6
                    try clear c6b0
                    try clear c6b1
                    try clear c6b2
                    try clear p6
                    try clear c7
                    try clear c8
                    try clear c14
                    try clear c14b0
                    try clear c14b1
                    try clear c14b2
                    try clear c16
                    try clear c16b0
                    try clear c16b1
                    try clear c17
                    try clear c17b0
                    try clear c17b1
                    try clear c20
                    try clear c21
                    try clear c21b0
                    try clear p21
                    try clear q21
                    try clear hx21
                    try clear qi21
                    try clear c24
                    try clear c24b0
                    try clear c26
                    try clear c26b0
                    try clear hx217_0
                    try clear hx219_0
                    try clear p2
                    try clear p217
                    try clear p219
                    try clear q2
                    try clear q217
                    try clear q219
                    obtain ⟨kq, x5_21, rfl, HA, HJ21, HO_3, HB⟩ := hcut
                    cases kq with
                    | zero => exact absurd HA.out (by simp [frisketlaw05_ClusterEach.j2])
                    | succ kj21 =>
                      have H := HA.out
                      clear HA
                      simp only [frisketlaw05_ClusterEach.j2] at H
                      by_cases c27 : 0 ≤ x4_2
                      · rw [if_pos c27] at H
                        have c27b0 : decide (0 ≤ x4_2) = true := decide_eq_true c27
                        clear c27
                        by_cases c28 : x4_2 < (t213.length : Int)
                        · rw [if_pos c28] at H
                          have c28b0 : decide (x4_2 < (t213.length : Int)) = true := decide_eq_true c28
                          clear c28
                          by_cases c29 : x5_21 ≤ (rd t213 x4_2)
                          · rw [if_pos c29] at H
                            have c29b0 : decide (x5_21 ≤ (rd t213 x4_2)) = true := decide_eq_true c29
                            clear c29
                            exact af_absurd HRT.out H (by repeat (first | exact AF.none | exact AF.false | refine AF.ite ?_ ?_ | refine AF.bind (fun _ => ?_)))
                          · rw [if_neg c29] at H
                            have c29b0 : decide (x5_21 ≤ (rd t213 x4_2)) = false := decide_eq_false c29
                            clear c29
                            have HC30 := Aside0.mk H
                            clear H
                            have p220 : 0 ≤ (x4_2 : Int) := of_decide_eq_true (by first | (with_reducible assumption) | assumption)
                            have q220 : x4_2 < (t213.length : Int) := of_decide_eq_true (by first | (with_reducible assumption) | assumption)
                            obtain ⟨ad220, e220, hx220_0⟩ := Kd.at_int (Kd.R_reads' HO_3.out).2.2 x4_2 p220 q220
                            cases e220
                            replace p220 := eq_true p220
                            replace q220 := eq_true q220
                            go_upto_region 16 with (fail)
                            go_cut [6] (fun v6 wc => ∃ (kq : Nat) (x6_29 : Bool), v6 = .bool x6_29 ∧ Aside0 (frisketlaw05_ClusterEach.j3 kq l0 t213 x4_2 x5_21 x6_29 = some r) ∧ Aside0 (kq ≤ kj21) ∧ Aside0 (Kd.R (Kd.int .i64) 3 wc w.heap.size (fun _ => True) (.slice (some ad220) t213.length co23) t213) ∧ Aside0 (Below w.heap.size w wc))
                            case first =>
                              have H := HC30.out
                              clear HC30
                              by_cases c31 : x5_21 = (wrap64 ((rd t213 x4_2) + 2))
                              · rw [if_pos c31] at H
                                have c31b0 : (x5_21 == (wrap64 ((rd t213 x4_2) + 2))) = true := beq_iff_eq.mpr c31
                                have c31b1 : (x5_21 != (wrap64 ((rd t213 x4_2) + 2))) = false := bne_eq_false_iff_eq.mpr c31
                                clear c31
                                (first | rw [c31b0] | (simp only [i64_w, i32_w]; rw [c31b0]) | skip)
                                by_cases c32 : 0 ≤ (rd t213 x4_2)
                                · rw [if_pos c32] at H
                                  have c32b0 : decide (0 ≤ (rd t213 x4_2)) = true := decide_eq_true c32
                                  clear c32
                                  by_cases c33 : (rd t213 x4_2) < (l0.length : Int)
                                  · rw [if_pos c33] at H
                                    have c33b0 : decide ((rd t213 x4_2) < (l0.length : Int)) = true := decide_eq_true c33
                                    clear c33
                                    by_cases c34 : (rd l0 (rd t213 x4_2)) = 1
                                    · rw [if_pos c34] at H
                                      have c34b0 : ((rd l0 (rd t213 x4_2)) == 1) = true := beq_iff_eq.mpr c34
                                      have c34b1 : ((rd l0 (rd t213 x4_2)) != 1) = false := bne_eq_false_iff_eq.mpr c34
                                      clear c34
                                      obtain ⟨ji35, hji35⟩ : ∃ j_ : Int, (wrap64 ((rd t213 x4_2) + 1)) = j_ := ⟨_, rfl⟩
                                      replace H : (if 0 ≤ (ji35) then (if (ji35) < (l0.length : Int) then (frisketlaw05_ClusterEach.j3 kj21 l0 t213 x4_2 x5_21 ((rd l0 (ji35)) == 2)) else (none)) else (none)) = some r := by first | (rw [hji35] at H; exact H) | (simp only [hji35] at H ⊢; exact H)
                                      have hji35w : (IntKind.i64.wrap ((rd t213 x4_2) + 1)) = ji35 := (i64_w _).trans hji35
                                      by_cases c36 : 0 ≤ (ji35)
                                      · rw [if_pos c36] at H
                                        have c36b0 : decide (0 ≤ (ji35)) = true := decide_eq_true c36
                                        clear c36
                                        by_cases c37 : (ji35) < (l0.length : Int)
                                        · rw [if_pos c37] at H
                                          have c37b0 : decide ((ji35) < (l0.length : Int)) = true := decide_eq_true c37
                                          clear c37
                                          have H' := Aside0.mk H
                                          clear H
                                          have p221 : 0 ≤ (x4_2 : Int) := of_decide_eq_true (by first | (with_reducible assumption) | assumption)
                                          have q221 : x4_2 < (t213.length : Int) := of_decide_eq_true (by first | (with_reducible assumption) | assumption)
                                          obtain ⟨ad221, e221, hx221_0⟩ := Kd.at_int (Kd.R_reads' HO_3.out).2.2 x4_2 p221 q221
                                          obtain rfl : ad220 = ad221 := (by injection e221)
                                          replace p221 := eq_true p221
                                          replace q221 := eq_true q221
                                          have p222 : 0 ≤ (x4_2 : Int) := of_decide_eq_true (by first | (with_reducible assumption) | assumption)
                                          have q222 : x4_2 < (t213.length : Int) := of_decide_eq_true (by first | (with_reducible assumption) | assumption)
                                          obtain ⟨ad222, e222, hx222_0⟩ := Kd.at_int (Kd.R_reads' HO_3.out).2.2 x4_2 p222 q222
                                          obtain rfl : ad220 = ad222 := (by injection e222)
                                          replace p222 := eq_true p222
                                          replace q222 := eq_true q222
                                          have p223 : 0 ≤ ((rd t213 x4_2) : Int) := of_decide_eq_true (by first | (with_reducible assumption) | assumption)
                                          have q223 : (rd t213 x4_2) < (l0.length : Int) := of_decide_eq_true (by first | (with_reducible assumption) | assumption)
                                          obtain ⟨ad223, e223, hx223_0⟩ := Kd.at_int HR0.out (rd t213 x4_2) p223 q223
                                          cases e223
                                          replace hx223_0 := (HB.out.cell (World.block_lt_of_cell? w _ hx223_0)).trans hx223_0
                                          replace p223 := eq_true p223
                                          replace q223 := eq_true q223
                                          have p224 : 0 ≤ (x4_2 : Int) := of_decide_eq_true (by first | (with_reducible assumption) | assumption)
                                          have q224 : x4_2 < (t213.length : Int) := of_decide_eq_true (by first | (with_reducible assumption) | assumption)
                                          obtain ⟨ad224, e224, hx224_0⟩ := Kd.at_int (Kd.R_reads' HO_3.out).2.2 x4_2 p224 q224
                                          obtain rfl : ad220 = ad224 := (by injection e224)
                                          replace p224 := eq_true p224
                                          replace q224 := eq_true q224
                                          have p225 : 0 ≤ ((ji35) : Int) := of_decide_eq_true (by first | (with_reducible assumption) | assumption)
                                          have q225 : (ji35) < (l0.length : Int) := of_decide_eq_true (by first | (with_reducible assumption) | assumption)
                                          obtain ⟨ad225, e225, hx225_0⟩ := Kd.at_int HR0.out (ji35) p225 q225
                                          obtain rfl : ad223 = ad225 := (by injection e225)
                                          replace hx225_0 := (HB.out.cell (World.block_lt_of_cell? w _ hx225_0)).trans hx225_0
                                          replace p225 := eq_true p225
                                          replace q225 := eq_true q225
                                          go_wp2
                                          go_meet
                                          case rel => exact ⟨_, (((rd l0 (ji35)) == 2)), (by first | rfl | (simp; done) | (simp only [← hji35] <;> (first | rfl | simp)) | (simp [*]; done)), H', ⟨by have := HJ11.out; have := HK2.out; have := HJ21.out; first | omega | exact Nat.le_refl _⟩, ⟨by (with_reducible repeat (first | apply Kd.R_alloc | apply Kd.R_drewN | apply Kd.R_drew)); exact HO_3.out⟩, ⟨by repeat (first | (with_reducible first | exact HB.out | apply below_alloc | apply pw_below_drewN | apply below_drew1) | exact HB.out)⟩⟩
                                        · rw [if_neg c37] at H
                                          exact absurd H (by simp)
                                      · rw [if_neg c36] at H
                                        exact absurd H (by simp)
                                    · rw [if_neg c34] at H
                                      have c34b0 : ((rd l0 (rd t213 x4_2)) == 1) = false := beq_eq_false_iff_ne.mpr c34
                                      have c34b1 : ((rd l0 (rd t213 x4_2)) != 1) = true := bne_iff_ne.mpr c34
                                      have H' := Aside0.mk H
                                      clear H
                                      have p221 : 0 ≤ (x4_2 : Int) := of_decide_eq_true (by first | (with_reducible assumption) | assumption)
                                      have q221 : x4_2 < (t213.length : Int) := of_decide_eq_true (by first | (with_reducible assumption) | assumption)
                                      obtain ⟨ad221, e221, hx221_0⟩ := Kd.at_int (Kd.R_reads' HO_3.out).2.2 x4_2 p221 q221
                                      obtain rfl : ad220 = ad221 := (by injection e221)
                                      replace p221 := eq_true p221
                                      replace q221 := eq_true q221
                                      have p222 : 0 ≤ (x4_2 : Int) := of_decide_eq_true (by first | (with_reducible assumption) | assumption)
                                      have q222 : x4_2 < (t213.length : Int) := of_decide_eq_true (by first | (with_reducible assumption) | assumption)
                                      obtain ⟨ad222, e222, hx222_0⟩ := Kd.at_int (Kd.R_reads' HO_3.out).2.2 x4_2 p222 q222
                                      obtain rfl : ad220 = ad222 := (by injection e222)
                                      replace p222 := eq_true p222
                                      replace q222 := eq_true q222
                                      have p223 : 0 ≤ ((rd t213 x4_2) : Int) := of_decide_eq_true (by first | (with_reducible assumption) | assumption)
                                      have q223 : (rd t213 x4_2) < (l0.length : Int) := of_decide_eq_true (by first | (with_reducible assumption) | assumption)
                                      obtain ⟨ad223, e223, hx223_0⟩ := Kd.at_int HR0.out (rd t213 x4_2) p223 q223
                                      cases e223
                                      replace hx223_0 := (HB.out.cell (World.block_lt_of_cell? w _ hx223_0)).trans hx223_0
                                      replace p223 := eq_true p223
                                      replace q223 := eq_true q223
                                      go_wp2
                                      go_meet
                                      case rel => exact ⟨_, (false), (by first | rfl | (simp; done) | (simp [*]; done)), H', ⟨by have := HJ11.out; have := HK2.out; have := HJ21.out; first | omega | exact Nat.le_refl _⟩, ⟨by (with_reducible repeat (first | apply Kd.R_alloc | apply Kd.R_drewN | apply Kd.R_drew)); exact HO_3.out⟩, ⟨by repeat (first | (with_reducible first | exact HB.out | apply below_alloc | apply pw_below_drewN | apply below_drew1) | exact HB.out)⟩⟩
                                  · rw [if_neg c33] at H
                                    exact absurd H (by simp)
                                · rw [if_neg c32] at H
                                  exact absurd H (by simp)
                              · rw [if_neg c31] at H
                                have c31b0 : (x5_21 == (wrap64 ((rd t213 x4_2) + 2))) = false := beq_eq_false_iff_ne.mpr c31
                                have c31b1 : (x5_21 != (wrap64 ((rd t213 x4_2) + 2))) = true := bne_iff_ne.mpr c31
                                (first | rw [c31b0] | (simp only [i64_w, i32_w]; rw [c31b0]) | skip)
                                have H' := Aside0.mk H
                                clear H
                                have p221 : 0 ≤ (x4_2 : Int) := of_decide_eq_true (by first | (with_reducible assumption) | assumption)
                                have q221 : x4_2 < (t213.length : Int) := of_decide_eq_true (by first | (with_reducible assumption) | assumption)
                                obtain ⟨ad221, e221, hx221_0⟩ := Kd.at_int (Kd.R_reads' HO_3.out).2.2 x4_2 p221 q221
                                obtain rfl : ad220 = ad221 := (by injection e221)
                                replace p221 := eq_true p221
                                replace q221 := eq_true q221
                                go_wp2
                                go_meet
                                case rel => exact ⟨_, (false), (by first | rfl | (simp; done) | (simp [*]; done)), H', ⟨by have := HJ11.out; have := HK2.out; have := HJ21.out; first | omega | exact Nat.le_refl _⟩, ⟨by (with_reducible repeat (first | apply Kd.R_alloc | apply Kd.R_drewN | apply Kd.R_drew)); exact HO_3.out⟩, ⟨by repeat (first | (with_reducible first | exact HB.out | apply below_alloc | apply pw_below_drewN | apply below_drew1) | exact HB.out)⟩⟩
                            case rest =>
                              clear HC30
                              try clear c1
                              try clear c2
                              try clear c2b0
                              try clear c2b1
                              try clear p2
                              try clear q2
                              try clear hx2
                              try clear qi2
                              try clear c3
                              try clear c6
                              try clear c6b0
                              try clear c6b1
                              try clear c6b2
                              try clear p6
                              try clear c7
                              try clear c8
                              try clear c14
                              try clear c14b0
                              try clear c14b1
                              try clear c14b2
                              try clear c16
                              try clear c16b0
                              try clear c16b1
                              try clear c17
                              try clear c17b0
                              try clear c17b1
                              try clear c20
                              try clear c21
                              try clear c21b0
                              try clear p21
                              try clear q21
                              try clear hx21
                              try clear qi21
                              try clear p22
                              try clear q22
                              try clear hx22
                              try clear c24
                              try clear c24b0
                              try clear c26
                              try clear c26b0
                              try clear c27
                              try clear c27b0
                              try clear c28
                              try clear c28b0
                              try clear c29
                              try clear c29b0
                              try clear c31
                              try clear c31b0
                              try clear c31b1
                              try clear c32
                              try clear c32b0
                              try clear c33
                              try clear c33b0
                              try clear c34
                              try clear c34b0
                              try clear c34b1
                              try clear c36
                              try clear c36b0
                              try clear c37
                              try clear c37b0
                              try clear hx217_0
                              try clear hx219_0
                              try clear hx220_0
                              try clear hx221_0
                              try clear hx222_0
                              try clear hx223_0
                              try clear hx224_0
                              try clear hx225_0
                              try clear p2
                              try clear p21
                              try clear p217
                              try clear p219
                              try clear p220
                              try clear p221
                              try clear p222
                              try clear p223
                              try clear p224
                              try clear p225
                              try clear p6
                              try clear q2
                              try clear q21
                              try clear q217
                              try clear q219
                              try clear q220
                              try clear q221
                              try clear q222
                              try clear q223
                              try clear q224
                              try clear q225
                              obtain ⟨kq, x6_29, rfl, HA, HJ29, HO_3, HB⟩ := hcut
                              cases kq with
                              | zero => exact absurd HA.out (by simp [frisketlaw05_ClusterEach.j3])
                              | succ kj29 =>
                                have H := HA.out
                                clear HA
                                simp only [frisketlaw05_ClusterEach.j3] at H
                                by_cases c38 : 0 ≤ x4_2
                                · rw [if_pos c38] at H
                                  have c38b0 : decide (0 ≤ x4_2) = true := decide_eq_true c38
                                  clear c38
                                  by_cases c39 : x4_2 < (t213.length : Int)
                                  · rw [if_pos c39] at H
                                    have c39b0 : decide (x4_2 < (t213.length : Int)) = true := decide_eq_true c39
                                    clear c39
                                    have H' := Aside0.mk H
                                    clear H
                                    have p226 : 0 ≤ (x4_2 : Int) := of_decide_eq_true (by first | (with_reducible assumption) | assumption)
                                    have q226 : x4_2 < (t213.length : Int) := of_decide_eq_true (by first | (with_reducible assumption) | assumption)
                                    obtain ⟨ad226, e226, hx226_0⟩ := Kd.at_int (Kd.R_reads' HO_3.out).2.2 x4_2 p226 q226
                                    obtain rfl : ad220 = ad226 := (by injection e226)
                                    replace p226 := eq_true p226
                                    replace q226 := eq_true q226
                                    go_wp2
                                    go_loopg [7] kj29 (fun kq v7 w' => ∃ (x7_5 : Int), v7 = .int .i64 x7_5 ∧ Aside0 (frisketlaw05_ClusterEach.l1 kq l0 t213 x4_2 x5_21 x6_29 x7_5 = some r) ∧ Aside0 (kq ≤ kj29) ∧ Aside0 (Kd.R (Kd.int .i64) 3 w' w.heap.size (fun _ => True) (.slice (some ad220) t213.length co23) t213) ∧ Aside0 (Below w.heap.size w w'))
                                    case atStart => exact ⟨(rd t213 x4_2), (by first | rfl | (simp; done) | (simp [*]; done)), H', ⟨Nat.le_refl _⟩, ⟨by (with_reducible repeat (first | apply Kd.R_alloc | apply Kd.R_drewN | apply Kd.R_drew)); exact HO_3.out⟩, ⟨by repeat (first | (with_reducible first | exact HB.out | apply below_alloc | apply pw_below_drewN | apply below_drew1) | exact HB.out)⟩⟩
                                    case round =>
                                      clear H'
                                      try clear c1
                                      try clear c2
                                      try clear c2b0
                                      try clear c2b1
                                      try clear p2
                                      try clear q2
                                      try clear hx2
                                      try clear qi2
                                      try clear c3
                                      try clear c6
                                      try clear c6b0
                                      try clear c6b1
                                      try clear c6b2
                                      try clear p6
                                      try clear c7
                                      try clear c8
                                      try clear c14
                                      try clear c14b0
                                      try clear c14b1
                                      try clear c14b2
                                      try clear c16
                                      try clear c16b0
                                      try clear c16b1
                                      try clear c17
                                      try clear c17b0
                                      try clear c17b1
                                      try clear c20
                                      try clear c21
                                      try clear c21b0
                                      try clear p21
                                      try clear q21
                                      try clear hx21
                                      try clear qi21
                                      try clear p22
                                      try clear q22
                                      try clear hx22
                                      try clear c24
                                      try clear c24b0
                                      try clear c26
                                      try clear c26b0
                                      try clear c27
                                      try clear c27b0
                                      try clear c28
                                      try clear c28b0
                                      try clear c29
                                      try clear c29b0
                                      try clear c31
                                      try clear c31b0
                                      try clear c31b1
                                      try clear c32
                                      try clear c32b0
                                      try clear c33
                                      try clear c33b0
                                      try clear c34
                                      try clear c34b0
                                      try clear c34b1
                                      try clear c36
                                      try clear c36b0
                                      try clear c37
                                      try clear c37b0
                                      try clear c38
                                      try clear c38b0
                                      try clear c39
                                      try clear c39b0
                                      try clear hx217_0
                                      try clear hx219_0
                                      try clear hx220_0
                                      try clear hx221_0
                                      try clear hx222_0
                                      try clear hx223_0
                                      try clear hx224_0
                                      try clear hx225_0
                                      try clear hx226_0
                                      try clear p2
                                      try clear p21
                                      try clear p217
                                      try clear p219
                                      try clear p22
                                      try clear p220
                                      try clear p221
                                      try clear p222
                                      try clear p223
                                      try clear p224
                                      try clear p225
                                      try clear p226
                                      try clear p6
                                      try clear q2
                                      try clear q21
                                      try clear q217
                                      try clear q219
                                      try clear q22
                                      try clear q220
                                      try clear q221
                                      try clear q222
                                      try clear q223
                                      try clear q224
                                      try clear q225
                                      try clear q226
                                      obtain ⟨x7_5, rfl, HA, HK5, HO_3, HB⟩ := hrel
                                      cases gk with
                                      | zero => exact absurd HA.out (by simp [frisketlaw05_ClusterEach.l1])
                                      | succ k5 =>
                                        have H := HA.out
                                        clear HA
                                        simp only [frisketlaw05_ClusterEach.l1] at H
                                        by_cases c40 : x7_5 < x5_21
                                        · rw [if_pos c40] at H
                                          have c40b0 : decide (x7_5 < x5_21) = true := decide_eq_true c40
                                          clear c40
                                          by_cases c41 : 0 ≤ x7_5
                                          · rw [if_pos c41] at H
                                            have c41b0 : decide (0 ≤ x7_5) = true := decide_eq_true c41
                                            clear c41
                                            by_cases c42 : x7_5 < (l0.length : Int)
                                            · rw [if_pos c42] at H
                                              have c42b0 : decide (x7_5 < (l0.length : Int)) = true := decide_eq_true c42
                                              clear c42
                                              by_cases c43 : (rd l0 x7_5) = 1
                                              · rw [if_pos c43] at H
                                                have c43b0 : ((rd l0 x7_5) == 1) = true := beq_iff_eq.mpr c43
                                                have c43b1 : ((rd l0 x7_5) != 1) = false := bne_eq_false_iff_eq.mpr c43
                                                clear c43
                                                by_cases c44 : 0 ≤ x4_2
                                                · rw [if_pos c44] at H
                                                  have c44b0 : decide (0 ≤ x4_2) = true := decide_eq_true c44
                                                  clear c44
                                                  by_cases c45 : x4_2 < (t213.length : Int)
                                                  · rw [if_pos c45] at H
                                                    have c45b0 : decide (x4_2 < (t213.length : Int)) = true := decide_eq_true c45
                                                    clear c45
                                                    by_cases c46 : x5_21 > (wrap64 ((rd t213 x4_2) + 1))
                                                    · rw [if_pos c46] at H
                                                      have c46b0 : decide ((wrap64 ((rd t213 x4_2) + 1)) < x5_21) = true := decide_eq_true c46
                                                      clear c46
                                                      by_cases c47 : x6_29 = true
                                                      · subst c47
                                                        have H1 : ((cluster_Of.f k5 t213 x7_5).bind fun t229 => (if t229 = x4_2 then (frisketlaw05_ClusterEach.l1 k5 l0 t213 x4_2 x5_21 true (wrap64 (x7_5 + 1))) else (some false))) = some r := by rw [if_pos rfl] at H; exact H
                                                        clear H
                                                        have H := H1
                                                        clear H1
                                                        replace H := Option.bind_eq_some_iff.mp H
                                                        obtain ⟨t229, A480, H⟩ := H
                                                        replace H : (if t229 = x4_2 then (frisketlaw05_ClusterEach.l1 k5 l0 t213 x4_2 x5_21 true (wrap64 (x7_5 + 1))) else (some false)) = some r := H
                                                        have A48 := Aside0.mk A480
                                                        clear A480
                                                        by_cases c49 : t229 = x4_2
                                                        · rw [if_pos c49] at H
                                                          have c49b0 : (t229 == x4_2) = true := beq_iff_eq.mpr c49
                                                          have c49b1 : (t229 != x4_2) = false := bne_eq_false_iff_eq.mpr c49
                                                          clear c49
                                                          have H' := Aside0.mk H
                                                          clear H
                                                          have p227 : 0 ≤ (x7_5 : Int) := of_decide_eq_true (by first | (with_reducible assumption) | assumption)
                                                          have q227 : x7_5 < (l0.length : Int) := of_decide_eq_true (by first | (with_reducible assumption) | assumption)
                                                          obtain ⟨ad227, e227, hx227_0⟩ := Kd.at_int HR0.out x7_5 p227 q227
                                                          cases e227
                                                          replace hx227_0 := (HB.out.cell (World.block_lt_of_cell? w _ hx227_0)).trans hx227_0
                                                          replace p227 := eq_true p227
                                                          replace q227 := eq_true q227
                                                          have p228 : 0 ≤ (x4_2 : Int) := of_decide_eq_true (by first | (with_reducible assumption) | assumption)
                                                          have q228 : x4_2 < (t213.length : Int) := of_decide_eq_true (by first | (with_reducible assumption) | assumption)
                                                          obtain ⟨ad228, e228, hx228_0⟩ := Kd.at_int (Kd.R_reads' HO_3.out).2.2 x4_2 p228 q228
                                                          obtain rfl : ad220 = ad228 := (by injection e228)
                                                          replace p228 := eq_true p228
                                                          replace q228 := eq_true q228
                                                          go_wp2_with (first | (go_at_call 13; (with_reducible refine (cluster_Of.calls k5 _ _ t213 x7_5 t229 _ ?side1 ?side2 A48.out).mono ?_); (case side1 => repeat (first | exact (Kd.R_reads' HO_3.out).2.2 | (with_reducible refine Kd.C_alloc ?_ _) | (with_reducible refine Kd.C_drewN ?_ _) | (with_reducible refine Kd.C_drew ?_))); (case side2 => exact (Kd.R_reads' HO_3.out).2.1); rintro e w' ⟨rfl, ⟨nd, rfl⟩⟩))
                                                          go_roundg k5
                                                          case measure => have := HJ11.out; have := HK2.out; have := HJ21.out; have := HJ29.out; have := HK5.out; omega
                                                          case rel => exact ⟨(wrap64 (x7_5 + 1)), (by first | rfl | (simp; done) | (simp [*]; done)), H', ⟨by have := HJ11.out; have := HK2.out; have := HJ21.out; have := HJ29.out; have := HK5.out; omega⟩, ⟨by (with_reducible repeat (first | apply Kd.R_alloc | apply Kd.R_drewN | apply Kd.R_drew)); exact HO_3.out⟩, ⟨by repeat (first | (with_reducible first | exact HB.out | apply below_alloc | apply pw_below_drewN | apply below_drew1) | exact HB.out)⟩⟩
                                                        · rw [if_neg c49] at H
                                                          have c49b0 : (t229 == x4_2) = false := beq_eq_false_iff_ne.mpr c49
                                                          have c49b1 : (t229 != x4_2) = true := bne_iff_ne.mpr c49
                                                          exact af_absurd HRT.out H (by repeat (first | exact AF.none | exact AF.false | refine AF.ite ?_ ?_ | refine AF.bind (fun _ => ?_)))
                                                      · replace c47 := Bool.eq_false_iff.mpr c47
                                                        subst c47
                                                        have H1 : (some false) = some r := by rw [if_neg (show ¬ (false = true) by decide)] at H; exact H
                                                        clear H
                                                        have H := H1
                                                        clear H1
                                                        exact af_absurd HRT.out H (by repeat (first | exact AF.none | exact AF.false | refine AF.ite ?_ ?_ | refine AF.bind (fun _ => ?_)))
                                                    · rw [if_neg c46] at H
                                                      have c46b0 : decide ((wrap64 ((rd t213 x4_2) + 1)) < x5_21) = false := decide_eq_false c46
                                                      clear c46
                                                      replace H := Option.bind_eq_some_iff.mp H
                                                      obtain ⟨t230, A500, H⟩ := H
                                                      replace H : (if t230 = x4_2 then (frisketlaw05_ClusterEach.l1 k5 l0 t213 x4_2 x5_21 x6_29 (wrap64 (x7_5 + 1))) else (some false)) = some r := H
                                                      have A50 := Aside0.mk A500
                                                      clear A500
                                                      by_cases c51 : t230 = x4_2
                                                      · rw [if_pos c51] at H
                                                        have c51b0 : (t230 == x4_2) = true := beq_iff_eq.mpr c51
                                                        have c51b1 : (t230 != x4_2) = false := bne_eq_false_iff_eq.mpr c51
                                                        clear c51
                                                        have H' := Aside0.mk H
                                                        clear H
                                                        have p227 : 0 ≤ (x7_5 : Int) := of_decide_eq_true (by first | (with_reducible assumption) | assumption)
                                                        have q227 : x7_5 < (l0.length : Int) := of_decide_eq_true (by first | (with_reducible assumption) | assumption)
                                                        obtain ⟨ad227, e227, hx227_0⟩ := Kd.at_int HR0.out x7_5 p227 q227
                                                        cases e227
                                                        replace hx227_0 := (HB.out.cell (World.block_lt_of_cell? w _ hx227_0)).trans hx227_0
                                                        replace p227 := eq_true p227
                                                        replace q227 := eq_true q227
                                                        have p228 : 0 ≤ (x4_2 : Int) := of_decide_eq_true (by first | (with_reducible assumption) | assumption)
                                                        have q228 : x4_2 < (t213.length : Int) := of_decide_eq_true (by first | (with_reducible assumption) | assumption)
                                                        obtain ⟨ad228, e228, hx228_0⟩ := Kd.at_int (Kd.R_reads' HO_3.out).2.2 x4_2 p228 q228
                                                        obtain rfl : ad220 = ad228 := (by injection e228)
                                                        replace p228 := eq_true p228
                                                        replace q228 := eq_true q228
                                                        go_wp2_with (first | (go_at_call 13; (with_reducible refine (cluster_Of.calls k5 _ _ t213 x7_5 t230 _ ?side1 ?side2 A50.out).mono ?_); (case side1 => repeat (first | exact (Kd.R_reads' HO_3.out).2.2 | (with_reducible refine Kd.C_alloc ?_ _) | (with_reducible refine Kd.C_drewN ?_ _) | (with_reducible refine Kd.C_drew ?_))); (case side2 => exact (Kd.R_reads' HO_3.out).2.1); rintro e w' ⟨rfl, ⟨nd, rfl⟩⟩))
                                                        go_roundg k5
                                                        case measure => have := HJ11.out; have := HK2.out; have := HJ21.out; have := HJ29.out; have := HK5.out; omega
                                                        case rel => exact ⟨(wrap64 (x7_5 + 1)), (by first | rfl | (simp; done) | (simp [*]; done)), H', ⟨by have := HJ11.out; have := HK2.out; have := HJ21.out; have := HJ29.out; have := HK5.out; omega⟩, ⟨by (with_reducible repeat (first | apply Kd.R_alloc | apply Kd.R_drewN | apply Kd.R_drew)); exact HO_3.out⟩, ⟨by repeat (first | (with_reducible first | exact HB.out | apply below_alloc | apply pw_below_drewN | apply below_drew1) | exact HB.out)⟩⟩
                                                      · rw [if_neg c51] at H
                                                        have c51b0 : (t230 == x4_2) = false := beq_eq_false_iff_ne.mpr c51
                                                        have c51b1 : (t230 != x4_2) = true := bne_iff_ne.mpr c51
                                                        exact af_absurd HRT.out H (by repeat (first | exact AF.none | exact AF.false | refine AF.ite ?_ ?_ | refine AF.bind (fun _ => ?_)))
                                                  · rw [if_neg c45] at H
                                                    exact absurd H (by simp)
                                                · rw [if_neg c44] at H
                                                  exact absurd H (by simp)
                                              · rw [if_neg c43] at H
                                                have c43b0 : ((rd l0 x7_5) == 1) = false := beq_eq_false_iff_ne.mpr c43
                                                have c43b1 : ((rd l0 x7_5) != 1) = true := bne_iff_ne.mpr c43
                                                by_cases c52 : (rd l0 x7_5) = 2
                                                · rw [if_pos c52] at H
                                                  have c52b0 : ((rd l0 x7_5) == 2) = true := beq_iff_eq.mpr c52
                                                  have c52b1 : ((rd l0 x7_5) != 2) = false := bne_eq_false_iff_eq.mpr c52
                                                  clear c52
                                                  by_cases c53 : 0 ≤ x4_2
                                                  · rw [if_pos c53] at H
                                                    have c53b0 : decide (0 ≤ x4_2) = true := decide_eq_true c53
                                                    clear c53
                                                    by_cases c54 : x4_2 < (t213.length : Int)
                                                    · rw [if_pos c54] at H
                                                      have c54b0 : decide (x4_2 < (t213.length : Int)) = true := decide_eq_true c54
                                                      clear c54
                                                      by_cases c55 : x5_21 > (wrap64 ((rd t213 x4_2) + 1))
                                                      · rw [if_pos c55] at H
                                                        have c55b0 : decide ((wrap64 ((rd t213 x4_2) + 1)) < x5_21) = true := decide_eq_true c55
                                                        clear c55
                                                        by_cases c56 : x6_29 = true
                                                        · subst c56
                                                          have H1 : ((cluster_Of.f k5 t213 x7_5).bind fun t233 => (if t233 = x4_2 then (frisketlaw05_ClusterEach.l1 k5 l0 t213 x4_2 x5_21 true (wrap64 (x7_5 + 1))) else (some false))) = some r := by rw [if_pos rfl] at H; exact H
                                                          clear H
                                                          have H := H1
                                                          clear H1
                                                          replace H := Option.bind_eq_some_iff.mp H
                                                          obtain ⟨t233, A570, H⟩ := H
                                                          replace H : (if t233 = x4_2 then (frisketlaw05_ClusterEach.l1 k5 l0 t213 x4_2 x5_21 true (wrap64 (x7_5 + 1))) else (some false)) = some r := H
                                                          have A57 := Aside0.mk A570
                                                          clear A570
                                                          by_cases c58 : t233 = x4_2
                                                          · rw [if_pos c58] at H
                                                            have c58b0 : (t233 == x4_2) = true := beq_iff_eq.mpr c58
                                                            have c58b1 : (t233 != x4_2) = false := bne_eq_false_iff_eq.mpr c58
                                                            clear c58
                                                            have H' := Aside0.mk H
                                                            clear H
                                                            have p227 : 0 ≤ (x7_5 : Int) := of_decide_eq_true (by first | (with_reducible assumption) | assumption)
                                                            have q227 : x7_5 < (l0.length : Int) := of_decide_eq_true (by first | (with_reducible assumption) | assumption)
                                                            obtain ⟨ad227, e227, hx227_0⟩ := Kd.at_int HR0.out x7_5 p227 q227
                                                            cases e227
                                                            replace hx227_0 := (HB.out.cell (World.block_lt_of_cell? w _ hx227_0)).trans hx227_0
                                                            replace p227 := eq_true p227
                                                            replace q227 := eq_true q227
                                                            have p231 : 0 ≤ (x7_5 : Int) := of_decide_eq_true (by first | (with_reducible assumption) | assumption)
                                                            have q231 : x7_5 < (l0.length : Int) := of_decide_eq_true (by first | (with_reducible assumption) | assumption)
                                                            obtain ⟨ad231, e231, hx231_0⟩ := Kd.at_int HR0.out x7_5 p231 q231
                                                            obtain rfl : ad227 = ad231 := (by injection e231)
                                                            replace hx231_0 := (HB.out.cell (World.block_lt_of_cell? w _ hx231_0)).trans hx231_0
                                                            replace p231 := eq_true p231
                                                            replace q231 := eq_true q231
                                                            have p232 : 0 ≤ (x4_2 : Int) := of_decide_eq_true (by first | (with_reducible assumption) | assumption)
                                                            have q232 : x4_2 < (t213.length : Int) := of_decide_eq_true (by first | (with_reducible assumption) | assumption)
                                                            obtain ⟨ad232, e232, hx232_0⟩ := Kd.at_int (Kd.R_reads' HO_3.out).2.2 x4_2 p232 q232
                                                            obtain rfl : ad220 = ad232 := (by injection e232)
                                                            replace p232 := eq_true p232
                                                            replace q232 := eq_true q232
                                                            go_wp2_with (first | (go_at_call 13; (with_reducible refine (cluster_Of.calls k5 _ _ t213 x7_5 t233 _ ?side1 ?side2 A57.out).mono ?_); (case side1 => repeat (first | exact (Kd.R_reads' HO_3.out).2.2 | (with_reducible refine Kd.C_alloc ?_ _) | (with_reducible refine Kd.C_drewN ?_ _) | (with_reducible refine Kd.C_drew ?_))); (case side2 => exact (Kd.R_reads' HO_3.out).2.1); rintro e w' ⟨rfl, ⟨nd, rfl⟩⟩))
                                                            go_roundg k5
                                                            case measure => have := HJ11.out; have := HK2.out; have := HJ21.out; have := HJ29.out; have := HK5.out; omega
                                                            case rel => exact ⟨(wrap64 (x7_5 + 1)), (by first | rfl | (simp; done) | (simp [*]; done)), H', ⟨by have := HJ11.out; have := HK2.out; have := HJ21.out; have := HJ29.out; have := HK5.out; omega⟩, ⟨by (with_reducible repeat (first | apply Kd.R_alloc | apply Kd.R_drewN | apply Kd.R_drew)); exact HO_3.out⟩, ⟨by repeat (first | (with_reducible first | exact HB.out | apply below_alloc | apply pw_below_drewN | apply below_drew1) | exact HB.out)⟩⟩
                                                          · rw [if_neg c58] at H
                                                            have c58b0 : (t233 == x4_2) = false := beq_eq_false_iff_ne.mpr c58
                                                            have c58b1 : (t233 != x4_2) = true := bne_iff_ne.mpr c58
                                                            exact af_absurd HRT.out H (by repeat (first | exact AF.none | exact AF.false | refine AF.ite ?_ ?_ | refine AF.bind (fun _ => ?_)))
                                                        · replace c56 := Bool.eq_false_iff.mpr c56
                                                          subst c56
                                                          have H1 : (some false) = some r := by rw [if_neg (show ¬ (false = true) by decide)] at H; exact H
                                                          clear H
                                                          have H := H1
                                                          clear H1
                                                          exact af_absurd HRT.out H (by repeat (first | exact AF.none | exact AF.false | refine AF.ite ?_ ?_ | refine AF.bind (fun _ => ?_)))
                                                      · rw [if_neg c55] at H
                                                        have c55b0 : decide ((wrap64 ((rd t213 x4_2) + 1)) < x5_21) = false := decide_eq_false c55
                                                        clear c55
                                                        replace H := Option.bind_eq_some_iff.mp H
                                                        obtain ⟨t234, A590, H⟩ := H
                                                        replace H : (if t234 = x4_2 then (frisketlaw05_ClusterEach.l1 k5 l0 t213 x4_2 x5_21 x6_29 (wrap64 (x7_5 + 1))) else (some false)) = some r := H
                                                        have A59 := Aside0.mk A590
                                                        clear A590
                                                        by_cases c60 : t234 = x4_2
                                                        · rw [if_pos c60] at H
                                                          have c60b0 : (t234 == x4_2) = true := beq_iff_eq.mpr c60
                                                          have c60b1 : (t234 != x4_2) = false := bne_eq_false_iff_eq.mpr c60
                                                          clear c60
                                                          have H' := Aside0.mk H
                                                          clear H
                                                          have p227 : 0 ≤ (x7_5 : Int) := of_decide_eq_true (by first | (with_reducible assumption) | assumption)
                                                          have q227 : x7_5 < (l0.length : Int) := of_decide_eq_true (by first | (with_reducible assumption) | assumption)
                                                          obtain ⟨ad227, e227, hx227_0⟩ := Kd.at_int HR0.out x7_5 p227 q227
                                                          cases e227
                                                          replace hx227_0 := (HB.out.cell (World.block_lt_of_cell? w _ hx227_0)).trans hx227_0
                                                          replace p227 := eq_true p227
                                                          replace q227 := eq_true q227
                                                          have p231 : 0 ≤ (x7_5 : Int) := of_decide_eq_true (by first | (with_reducible assumption) | assumption)
                                                          have q231 : x7_5 < (l0.length : Int) := of_decide_eq_true (by first | (with_reducible assumption) | assumption)
                                                          obtain ⟨ad231, e231, hx231_0⟩ := Kd.at_int HR0.out x7_5 p231 q231
                                                          obtain rfl : ad227 = ad231 := (by injection e231)
                                                          replace hx231_0 := (HB.out.cell (World.block_lt_of_cell? w _ hx231_0)).trans hx231_0
                                                          replace p231 := eq_true p231
                                                          replace q231 := eq_true q231
                                                          have p232 : 0 ≤ (x4_2 : Int) := of_decide_eq_true (by first | (with_reducible assumption) | assumption)
                                                          have q232 : x4_2 < (t213.length : Int) := of_decide_eq_true (by first | (with_reducible assumption) | assumption)
                                                          obtain ⟨ad232, e232, hx232_0⟩ := Kd.at_int (Kd.R_reads' HO_3.out).2.2 x4_2 p232 q232
                                                          obtain rfl : ad220 = ad232 := (by injection e232)
                                                          replace p232 := eq_true p232
                                                          replace q232 := eq_true q232
                                                          go_wp2_with (first | (go_at_call 13; (with_reducible refine (cluster_Of.calls k5 _ _ t213 x7_5 t234 _ ?side1 ?side2 A59.out).mono ?_); (case side1 => repeat (first | exact (Kd.R_reads' HO_3.out).2.2 | (with_reducible refine Kd.C_alloc ?_ _) | (with_reducible refine Kd.C_drewN ?_ _) | (with_reducible refine Kd.C_drew ?_))); (case side2 => exact (Kd.R_reads' HO_3.out).2.1); rintro e w' ⟨rfl, ⟨nd, rfl⟩⟩))
                                                          go_roundg k5
                                                          case measure => have := HJ11.out; have := HK2.out; have := HJ21.out; have := HJ29.out; have := HK5.out; omega
                                                          case rel => exact ⟨(wrap64 (x7_5 + 1)), (by first | rfl | (simp; done) | (simp [*]; done)), H', ⟨by have := HJ11.out; have := HK2.out; have := HJ21.out; have := HJ29.out; have := HK5.out; omega⟩, ⟨by (with_reducible repeat (first | apply Kd.R_alloc | apply Kd.R_drewN | apply Kd.R_drew)); exact HO_3.out⟩, ⟨by repeat (first | (with_reducible first | exact HB.out | apply below_alloc | apply pw_below_drewN | apply below_drew1) | exact HB.out)⟩⟩
                                                        · rw [if_neg c60] at H
                                                          have c60b0 : (t234 == x4_2) = false := beq_eq_false_iff_ne.mpr c60
                                                          have c60b1 : (t234 != x4_2) = true := bne_iff_ne.mpr c60
                                                          exact af_absurd HRT.out H (by repeat (first | exact AF.none | exact AF.false | refine AF.ite ?_ ?_ | refine AF.bind (fun _ => ?_)))
                                                    · rw [if_neg c54] at H
                                                      exact absurd H (by simp)
                                                  · rw [if_neg c53] at H
                                                    exact absurd H (by simp)
                                                · rw [if_neg c52] at H
                                                  have c52b0 : ((rd l0 x7_5) == 2) = false := beq_eq_false_iff_ne.mpr c52
                                                  have c52b1 : ((rd l0 x7_5) != 2) = true := bne_iff_ne.mpr c52
                                                  by_cases c61 : (rd l0 x7_5) = 3
                                                  · rw [if_pos c61] at H
                                                    have c61b0 : ((rd l0 x7_5) == 3) = true := beq_iff_eq.mpr c61
                                                    have c61b1 : ((rd l0 x7_5) != 3) = false := bne_eq_false_iff_eq.mpr c61
                                                    clear c61
                                                    by_cases c62 : 0 ≤ x4_2
                                                    · rw [if_pos c62] at H
                                                      have c62b0 : decide (0 ≤ x4_2) = true := decide_eq_true c62
                                                      clear c62
                                                      by_cases c63 : x4_2 < (t213.length : Int)
                                                      · rw [if_pos c63] at H
                                                        have c63b0 : decide (x4_2 < (t213.length : Int)) = true := decide_eq_true c63
                                                        clear c63
                                                        by_cases c64 : x5_21 > (wrap64 ((rd t213 x4_2) + 1))
                                                        · rw [if_pos c64] at H
                                                          have c64b0 : decide ((wrap64 ((rd t213 x4_2) + 1)) < x5_21) = true := decide_eq_true c64
                                                          clear c64
                                                          by_cases c65 : x6_29 = true
                                                          · subst c65
                                                            have H1 : ((cluster_Of.f k5 t213 x7_5).bind fun t237 => (if t237 = x4_2 then (frisketlaw05_ClusterEach.l1 k5 l0 t213 x4_2 x5_21 true (wrap64 (x7_5 + 1))) else (some false))) = some r := by rw [if_pos rfl] at H; exact H
                                                            clear H
                                                            have H := H1
                                                            clear H1
                                                            replace H := Option.bind_eq_some_iff.mp H
                                                            obtain ⟨t237, A660, H⟩ := H
                                                            replace H : (if t237 = x4_2 then (frisketlaw05_ClusterEach.l1 k5 l0 t213 x4_2 x5_21 true (wrap64 (x7_5 + 1))) else (some false)) = some r := H
                                                            have A66 := Aside0.mk A660
                                                            clear A660
                                                            by_cases c67 : t237 = x4_2
                                                            · rw [if_pos c67] at H
                                                              have c67b0 : (t237 == x4_2) = true := beq_iff_eq.mpr c67
                                                              have c67b1 : (t237 != x4_2) = false := bne_eq_false_iff_eq.mpr c67
                                                              clear c67
                                                              have H' := Aside0.mk H
                                                              clear H
                                                              have p227 : 0 ≤ (x7_5 : Int) := of_decide_eq_true (by first | (with_reducible assumption) | assumption)
                                                              have q227 : x7_5 < (l0.length : Int) := of_decide_eq_true (by first | (with_reducible assumption) | assumption)
                                                              obtain ⟨ad227, e227, hx227_0⟩ := Kd.at_int HR0.out x7_5 p227 q227
                                                              cases e227
                                                              replace hx227_0 := (HB.out.cell (World.block_lt_of_cell? w _ hx227_0)).trans hx227_0
                                                              replace p227 := eq_true p227
                                                              replace q227 := eq_true q227
                                                              have p231 : 0 ≤ (x7_5 : Int) := of_decide_eq_true (by first | (with_reducible assumption) | assumption)
                                                              have q231 : x7_5 < (l0.length : Int) := of_decide_eq_true (by first | (with_reducible assumption) | assumption)
                                                              obtain ⟨ad231, e231, hx231_0⟩ := Kd.at_int HR0.out x7_5 p231 q231
                                                              obtain rfl : ad227 = ad231 := (by injection e231)
                                                              replace hx231_0 := (HB.out.cell (World.block_lt_of_cell? w _ hx231_0)).trans hx231_0
                                                              replace p231 := eq_true p231
                                                              replace q231 := eq_true q231
                                                              have p235 : 0 ≤ (x7_5 : Int) := of_decide_eq_true (by first | (with_reducible assumption) | assumption)
                                                              have q235 : x7_5 < (l0.length : Int) := of_decide_eq_true (by first | (with_reducible assumption) | assumption)
                                                              obtain ⟨ad235, e235, hx235_0⟩ := Kd.at_int HR0.out x7_5 p235 q235
                                                              obtain rfl : ad227 = ad235 := (by injection e235)
                                                              replace hx235_0 := (HB.out.cell (World.block_lt_of_cell? w _ hx235_0)).trans hx235_0
                                                              replace p235 := eq_true p235
                                                              replace q235 := eq_true q235
                                                              have p236 : 0 ≤ (x4_2 : Int) := of_decide_eq_true (by first | (with_reducible assumption) | assumption)
                                                              have q236 : x4_2 < (t213.length : Int) := of_decide_eq_true (by first | (with_reducible assumption) | assumption)
                                                              obtain ⟨ad236, e236, hx236_0⟩ := Kd.at_int (Kd.R_reads' HO_3.out).2.2 x4_2 p236 q236
                                                              obtain rfl : ad220 = ad236 := (by injection e236)
                                                              replace p236 := eq_true p236
                                                              replace q236 := eq_true q236
                                                              go_wp2_with (first | (go_at_call 13; (with_reducible refine (cluster_Of.calls k5 _ _ t213 x7_5 t237 _ ?side1 ?side2 A66.out).mono ?_); (case side1 => repeat (first | exact (Kd.R_reads' HO_3.out).2.2 | (with_reducible refine Kd.C_alloc ?_ _) | (with_reducible refine Kd.C_drewN ?_ _) | (with_reducible refine Kd.C_drew ?_))); (case side2 => exact (Kd.R_reads' HO_3.out).2.1); rintro e w' ⟨rfl, ⟨nd, rfl⟩⟩))
                                                              go_roundg k5
                                                              case measure => have := HJ11.out; have := HK2.out; have := HJ21.out; have := HJ29.out; have := HK5.out; omega
                                                              case rel => exact ⟨(wrap64 (x7_5 + 1)), (by first | rfl | (simp; done) | (simp [*]; done)), H', ⟨by have := HJ11.out; have := HK2.out; have := HJ21.out; have := HJ29.out; have := HK5.out; omega⟩, ⟨by (with_reducible repeat (first | apply Kd.R_alloc | apply Kd.R_drewN | apply Kd.R_drew)); exact HO_3.out⟩, ⟨by repeat (first | (with_reducible first | exact HB.out | apply below_alloc | apply pw_below_drewN | apply below_drew1) | exact HB.out)⟩⟩
                                                            · rw [if_neg c67] at H
                                                              have c67b0 : (t237 == x4_2) = false := beq_eq_false_iff_ne.mpr c67
                                                              have c67b1 : (t237 != x4_2) = true := bne_iff_ne.mpr c67
                                                              exact af_absurd HRT.out H (by repeat (first | exact AF.none | exact AF.false | refine AF.ite ?_ ?_ | refine AF.bind (fun _ => ?_)))
                                                          · replace c65 := Bool.eq_false_iff.mpr c65
                                                            subst c65
                                                            have H1 : (some false) = some r := by rw [if_neg (show ¬ (false = true) by decide)] at H; exact H
                                                            clear H
                                                            have H := H1
                                                            clear H1
                                                            exact af_absurd HRT.out H (by repeat (first | exact AF.none | exact AF.false | refine AF.ite ?_ ?_ | refine AF.bind (fun _ => ?_)))
                                                        · rw [if_neg c64] at H
                                                          have c64b0 : decide ((wrap64 ((rd t213 x4_2) + 1)) < x5_21) = false := decide_eq_false c64
                                                          clear c64
                                                          replace H := Option.bind_eq_some_iff.mp H
                                                          obtain ⟨t238, A680, H⟩ := H
                                                          replace H : (if t238 = x4_2 then (frisketlaw05_ClusterEach.l1 k5 l0 t213 x4_2 x5_21 x6_29 (wrap64 (x7_5 + 1))) else (some false)) = some r := H
                                                          have A68 := Aside0.mk A680
                                                          clear A680
                                                          by_cases c69 : t238 = x4_2
                                                          · rw [if_pos c69] at H
                                                            have c69b0 : (t238 == x4_2) = true := beq_iff_eq.mpr c69
                                                            have c69b1 : (t238 != x4_2) = false := bne_eq_false_iff_eq.mpr c69
                                                            clear c69
                                                            have H' := Aside0.mk H
                                                            clear H
                                                            have p227 : 0 ≤ (x7_5 : Int) := of_decide_eq_true (by first | (with_reducible assumption) | assumption)
                                                            have q227 : x7_5 < (l0.length : Int) := of_decide_eq_true (by first | (with_reducible assumption) | assumption)
                                                            obtain ⟨ad227, e227, hx227_0⟩ := Kd.at_int HR0.out x7_5 p227 q227
                                                            cases e227
                                                            replace hx227_0 := (HB.out.cell (World.block_lt_of_cell? w _ hx227_0)).trans hx227_0
                                                            replace p227 := eq_true p227
                                                            replace q227 := eq_true q227
                                                            have p231 : 0 ≤ (x7_5 : Int) := of_decide_eq_true (by first | (with_reducible assumption) | assumption)
                                                            have q231 : x7_5 < (l0.length : Int) := of_decide_eq_true (by first | (with_reducible assumption) | assumption)
                                                            obtain ⟨ad231, e231, hx231_0⟩ := Kd.at_int HR0.out x7_5 p231 q231
                                                            obtain rfl : ad227 = ad231 := (by injection e231)
                                                            replace hx231_0 := (HB.out.cell (World.block_lt_of_cell? w _ hx231_0)).trans hx231_0
                                                            replace p231 := eq_true p231
                                                            replace q231 := eq_true q231
                                                            have p235 : 0 ≤ (x7_5 : Int) := of_decide_eq_true (by first | (with_reducible assumption) | assumption)
                                                            have q235 : x7_5 < (l0.length : Int) := of_decide_eq_true (by first | (with_reducible assumption) | assumption)
                                                            obtain ⟨ad235, e235, hx235_0⟩ := Kd.at_int HR0.out x7_5 p235 q235
                                                            obtain rfl : ad227 = ad235 := (by injection e235)
                                                            replace hx235_0 := (HB.out.cell (World.block_lt_of_cell? w _ hx235_0)).trans hx235_0
                                                            replace p235 := eq_true p235
                                                            replace q235 := eq_true q235
                                                            have p236 : 0 ≤ (x4_2 : Int) := of_decide_eq_true (by first | (with_reducible assumption) | assumption)
                                                            have q236 : x4_2 < (t213.length : Int) := of_decide_eq_true (by first | (with_reducible assumption) | assumption)
                                                            obtain ⟨ad236, e236, hx236_0⟩ := Kd.at_int (Kd.R_reads' HO_3.out).2.2 x4_2 p236 q236
                                                            obtain rfl : ad220 = ad236 := (by injection e236)
                                                            replace p236 := eq_true p236
                                                            replace q236 := eq_true q236
                                                            go_wp2_with (first | (go_at_call 13; (with_reducible refine (cluster_Of.calls k5 _ _ t213 x7_5 t238 _ ?side1 ?side2 A68.out).mono ?_); (case side1 => repeat (first | exact (Kd.R_reads' HO_3.out).2.2 | (with_reducible refine Kd.C_alloc ?_ _) | (with_reducible refine Kd.C_drewN ?_ _) | (with_reducible refine Kd.C_drew ?_))); (case side2 => exact (Kd.R_reads' HO_3.out).2.1); rintro e w' ⟨rfl, ⟨nd, rfl⟩⟩))
                                                            go_roundg k5
                                                            case measure => have := HJ11.out; have := HK2.out; have := HJ21.out; have := HJ29.out; have := HK5.out; omega
                                                            case rel => exact ⟨(wrap64 (x7_5 + 1)), (by first | rfl | (simp; done) | (simp [*]; done)), H', ⟨by have := HJ11.out; have := HK2.out; have := HJ21.out; have := HJ29.out; have := HK5.out; omega⟩, ⟨by (with_reducible repeat (first | apply Kd.R_alloc | apply Kd.R_drewN | apply Kd.R_drew)); exact HO_3.out⟩, ⟨by repeat (first | (with_reducible first | exact HB.out | apply below_alloc | apply pw_below_drewN | apply below_drew1) | exact HB.out)⟩⟩
                                                          · rw [if_neg c69] at H
                                                            have c69b0 : (t238 == x4_2) = false := beq_eq_false_iff_ne.mpr c69
                                                            have c69b1 : (t238 != x4_2) = true := bne_iff_ne.mpr c69
                                                            exact af_absurd HRT.out H (by repeat (first | exact AF.none | exact AF.false | refine AF.ite ?_ ?_ | refine AF.bind (fun _ => ?_)))
                                                      · rw [if_neg c63] at H
                                                        exact absurd H (by simp)
                                                    · rw [if_neg c62] at H
                                                      exact absurd H (by simp)
                                                  · rw [if_neg c61] at H
                                                    have c61b0 : ((rd l0 x7_5) == 3) = false := beq_eq_false_iff_ne.mpr c61
                                                    have c61b1 : ((rd l0 x7_5) != 3) = true := bne_iff_ne.mpr c61
                                                    replace H := Option.bind_eq_some_iff.mp H
                                                    obtain ⟨t239, A700, H⟩ := H
                                                    replace H : (if t239 = x4_2 then (frisketlaw05_ClusterEach.l1 k5 l0 t213 x4_2 x5_21 x6_29 (wrap64 (x7_5 + 1))) else (some false)) = some r := H
                                                    have A70 := Aside0.mk A700
                                                    clear A700
                                                    by_cases c71 : t239 = x4_2
                                                    · rw [if_pos c71] at H
                                                      have c71b0 : (t239 == x4_2) = true := beq_iff_eq.mpr c71
                                                      have c71b1 : (t239 != x4_2) = false := bne_eq_false_iff_eq.mpr c71
                                                      clear c71
                                                      have H' := Aside0.mk H
                                                      clear H
                                                      have p227 : 0 ≤ (x7_5 : Int) := of_decide_eq_true (by first | (with_reducible assumption) | assumption)
                                                      have q227 : x7_5 < (l0.length : Int) := of_decide_eq_true (by first | (with_reducible assumption) | assumption)
                                                      obtain ⟨ad227, e227, hx227_0⟩ := Kd.at_int HR0.out x7_5 p227 q227
                                                      cases e227
                                                      replace hx227_0 := (HB.out.cell (World.block_lt_of_cell? w _ hx227_0)).trans hx227_0
                                                      replace p227 := eq_true p227
                                                      replace q227 := eq_true q227
                                                      have p231 : 0 ≤ (x7_5 : Int) := of_decide_eq_true (by first | (with_reducible assumption) | assumption)
                                                      have q231 : x7_5 < (l0.length : Int) := of_decide_eq_true (by first | (with_reducible assumption) | assumption)
                                                      obtain ⟨ad231, e231, hx231_0⟩ := Kd.at_int HR0.out x7_5 p231 q231
                                                      obtain rfl : ad227 = ad231 := (by injection e231)
                                                      replace hx231_0 := (HB.out.cell (World.block_lt_of_cell? w _ hx231_0)).trans hx231_0
                                                      replace p231 := eq_true p231
                                                      replace q231 := eq_true q231
                                                      have p235 : 0 ≤ (x7_5 : Int) := of_decide_eq_true (by first | (with_reducible assumption) | assumption)
                                                      have q235 : x7_5 < (l0.length : Int) := of_decide_eq_true (by first | (with_reducible assumption) | assumption)
                                                      obtain ⟨ad235, e235, hx235_0⟩ := Kd.at_int HR0.out x7_5 p235 q235
                                                      obtain rfl : ad227 = ad235 := (by injection e235)
                                                      replace hx235_0 := (HB.out.cell (World.block_lt_of_cell? w _ hx235_0)).trans hx235_0
                                                      replace p235 := eq_true p235
                                                      replace q235 := eq_true q235
                                                      go_wp2_with (first | (go_at_call 13; (with_reducible refine (cluster_Of.calls k5 _ _ t213 x7_5 t239 _ ?side1 ?side2 A70.out).mono ?_); (case side1 => repeat (first | exact (Kd.R_reads' HO_3.out).2.2 | (with_reducible refine Kd.C_alloc ?_ _) | (with_reducible refine Kd.C_drewN ?_ _) | (with_reducible refine Kd.C_drew ?_))); (case side2 => exact (Kd.R_reads' HO_3.out).2.1); rintro e w' ⟨rfl, ⟨nd, rfl⟩⟩))
                                                      go_roundg k5
                                                      case measure => have := HJ11.out; have := HK2.out; have := HJ21.out; have := HJ29.out; have := HK5.out; omega
                                                      case rel => exact ⟨(wrap64 (x7_5 + 1)), (by first | rfl | (simp; done) | (simp [*]; done)), H', ⟨by have := HJ11.out; have := HK2.out; have := HJ21.out; have := HJ29.out; have := HK5.out; omega⟩, ⟨by (with_reducible repeat (first | apply Kd.R_alloc | apply Kd.R_drewN | apply Kd.R_drew)); exact HO_3.out⟩, ⟨by repeat (first | (with_reducible first | exact HB.out | apply below_alloc | apply pw_below_drewN | apply below_drew1) | exact HB.out)⟩⟩
                                                    · rw [if_neg c71] at H
                                                      have c71b0 : (t239 == x4_2) = false := beq_eq_false_iff_ne.mpr c71
                                                      have c71b1 : (t239 != x4_2) = true := bne_iff_ne.mpr c71
                                                      exact af_absurd HRT.out H (by repeat (first | exact AF.none | exact AF.false | refine AF.ite ?_ ?_ | refine AF.bind (fun _ => ?_)))
                                            · rw [if_neg c42] at H
                                              exact absurd H (by simp)
                                          · rw [if_neg c41] at H
                                            exact absurd H (by simp)
                                        · rw [if_neg c40] at H
                                          have c40b0 : decide (x7_5 < x5_21) = false := decide_eq_false c40
                                          clear c40
                                          have H' := Aside0.mk H
                                          clear H
                                          go_wp2
                                          go_roundg k5
                                          case measure => have := HJ11.out; have := HK2.out; have := HJ21.out; have := HJ29.out; have := HK5.out; omega
                                          case rel => exact ⟨(wrap64 (x4_2 + 1)), (by first | rfl | (simp; done) | (simp [*]; done)), H', ⟨by have := HJ11.out; have := HK2.out; have := HJ21.out; have := HJ29.out; have := HK5.out; omega⟩, ⟨by (with_reducible repeat (first | apply Kd.R_alloc | apply Kd.R_drewN | apply Kd.R_drew)); exact HO_3.out⟩, ⟨by repeat (first | (with_reducible first | exact HB.out | apply below_alloc | apply pw_below_drewN | apply below_drew1) | exact HB.out)⟩⟩
                                  · rw [if_neg c39] at H
                                    exact absurd H (by simp)
                                · rw [if_neg c38] at H
                                  exact absurd H (by simp)
                        · rw [if_neg c28] at H
                          exact absurd H (by simp)
                      · rw [if_neg c27] at H
                        exact absurd H (by simp)
                · rw [if_neg c21] at H
                  have c21b0 : decide (x4_2 < (t213.length : Int)) = false := decide_eq_false c21
                  clear c21
                  replace H := Option.bind_eq_some_iff.mp H
                  obtain ⟨t218, A720, H⟩ := H
                  replace H : (some t218) = some r := H
                  have A72 := Aside0.mk A720
                  clear A720
                  obtain rfl := Option.some.inj H
                  obtain ⟨Ao73, co73, eo73⟩ := Kd.R_slice HO_3.out
                  subst eo73
                  go_wp2_with (first | ((with_reducible refine gate_callee (f := 7) rfl ?_); refine goesL_ (some 141) rfl rfl Try.func7 (by kernel_rfl) rfl #[] rfl (by (try simp only [List.map_toArray, List.map_cons, List.map_nil]); first | done | rfl | (simp only [List.length_drop, List.length_take]; rfl)) ?_; (with_reducible refine (frisketlaw05_alive.calls k2  t218 _ A72.out).mono ?_); rintro e w74 ⟨rfl, hb⟩; refine ⟨_, rfl, ?_⟩; have n0_ := Aside0.mk (Kd.R_below (by (with_reducible repeat (first | apply Kd.R_alloc | apply Kd.R_drewN | apply Kd.R_drew)); exact HO_3.out) hb); have n1_ := Aside0.mk (below_step (by repeat (first | (with_reducible first | exact HB.out | apply below_alloc | apply pw_below_drewN | apply below_drew1) | exact HB.out)) hb); clear HO_3; clear HB; have HO_3 := n0_; have HB := n1_; clear n0_ n1_; (try clear hb); (try clear hb2); (try clear hk); (try clear hi)))
                  go_ret
                  exact ⟨by first | rfl | (simp [errW_none, errW_some] <;> rfl) | (simp [*, errW_none, errW_some] <;> rfl), by repeat (first | (with_reducible first | exact HB.out | apply below_alloc | apply pw_below_drewN | apply below_drew1) | exact HB.out)⟩

end Go.Proofs.Ytignelhjipbnkaa.P
