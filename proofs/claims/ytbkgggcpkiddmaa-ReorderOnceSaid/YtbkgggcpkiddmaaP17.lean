/- Written by wip/tools/gprint.py of this repo over the translation: Lean functions that answer as the Go functions named below do, and the proof of it; the conditions stand in each theorem. -/
import Derived.Test.YtbkgggcpkiddmaaP0
import Derived.Test.YtbkgggcpkiddmaaP8
import Derived.Test.YtbkgggcpkiddmaaP9
import Derived.Test.YtbkgggcpkiddmaaP11
import Derived.Test.YtbkgggcpkiddmaaHOrder
namespace Go.Proofs.Ytbkgggcpkiddmaa.P
open Go.RowKit Go.Proofs.YtbkgggcpkiddmaaW.PrintWords Go.Proofs.YtbkgggcpkiddmaaW.PrintLast Go.Proofs.YtbkgggcpkiddmaaW.PrintMore
attribute [local go_sem] max2_int min2_int max_two min_two max_three min_three max_four min_four   -- for this text's walks alone
set_option linter.unusedVariables false
set_option linter.unusedSimpArgs false

/-! ### frisketlaw14_ReorderOnce: function 4 -/
mutual
def frisketlaw14_ReorderOnce.j0 : Nat → List Int → List Int → Bool → Option (Bool)
  | 0, _, _, _ => none
  | k + 1, x0, x3, x22 => if x22 = true then ((frisketlaw14_alive.f k).bind fun t223 => (some t223)) else ((reorder_Back.f k x3).bind fun bt224 => ((reorder_Back.f k bt224.1).bind fun bt228 => (if bt224.2 = 0 then (if bt228.2 = 0 then (if (x3.length : Int) = (x0.length : Int) then (if (bt224.1.length : Int) = (x3.length : Int) then ((frisketref01_Ints.f k bt228.1 x3).bind fun t232 => (frisketlaw14_ReorderOnce.j1 k x0 bt224.1 (!t232))) else (frisketlaw14_ReorderOnce.j1 k x0 bt224.1 true)) else (frisketlaw14_ReorderOnce.j1 k x0 bt224.1 true)) else (frisketlaw14_ReorderOnce.j1 k x0 bt224.1 true)) else (frisketlaw14_ReorderOnce.j1 k x0 bt224.1 true))))
def frisketlaw14_ReorderOnce.j1 : Nat → List Int → List Int → Bool → Option (Bool)
  | 0, _, _, _ => none
  | k + 1, x0, x5, x59 => if x59 = true then (some false) else (frisketlaw14_ReorderOnce.l0 k x0 x5 0)
def frisketlaw14_ReorderOnce.l0 : Nat → List Int → List Int → Int → Option (Bool)
  | 0, _, _, _ => none
  | k + 1, x0, x5, x9 => if (wrap64 (x9 + 1)) < (x0.length : Int) then (if 0 ≤ x9 then (if x9 < (x0.length : Int) then (if (Int.tmod (rd x0 x9) 2) = 1 then (if 0 ≤ (wrap64 (x9 + 1)) then (if (rd x0 x9) = (rd x0 (wrap64 (x9 + 1))) then (if (wrap64 (x9 + 1)) < (x5.length : Int) then (if x9 < (x5.length : Int) then (if (rd x5 (wrap64 (x9 + 1))) = (wrap64 ((rd x5 x9) + (-1))) then (frisketlaw14_ReorderOnce.l0 k x0 x5 (wrap64 (x9 + 1))) else (some false)) else (none)) else (none)) else (frisketlaw14_ReorderOnce.l0 k x0 x5 (wrap64 (x9 + 1)))) else (none)) else (if 0 ≤ (wrap64 (x9 + 1)) then (if (rd x0 x9) = (rd x0 (wrap64 (x9 + 1))) then (if (wrap64 (x9 + 1)) < (x5.length : Int) then (if x9 < (x5.length : Int) then (if (rd x5 (wrap64 (x9 + 1))) = (wrap64 ((rd x5 x9) + 1)) then (frisketlaw14_ReorderOnce.l0 k x0 x5 (wrap64 (x9 + 1))) else (some false)) else (none)) else (none)) else (frisketlaw14_ReorderOnce.l0 k x0 x5 (wrap64 (x9 + 1)))) else (none))) else (none)) else (none)) else ((frisketlaw14_alive.f k).bind fun t233 => (some t233))
end
def frisketlaw14_ReorderOnce.f (k : Nat) (l0 : List Int) : Option (Bool) := (reorder_Order.f l0).bind fun bt219 => (if (l0.length : Int) > 200 then (frisketlaw14_ReorderOnce.j0 k l0 bt219.1 true) else (frisketlaw14_ReorderOnce.j0 k l0 bt219.1 (bt219.2 != 0)))
theorem frisketlaw14_ReorderOnce.mono_l : ∀ k, (∀ y0 y1 y2, LeO (frisketlaw14_ReorderOnce.j0 k y0 y1 y2) (frisketlaw14_ReorderOnce.j0 (k + 1) y0 y1 y2)) ∧ (∀ y0 y1 y2, LeO (frisketlaw14_ReorderOnce.j1 k y0 y1 y2) (frisketlaw14_ReorderOnce.j1 (k + 1) y0 y1 y2)) ∧ (∀ y0 y1 y2, LeO (frisketlaw14_ReorderOnce.l0 k y0 y1 y2) (frisketlaw14_ReorderOnce.l0 (k + 1) y0 y1 y2))
  | 0 => ⟨fun _ _ _ r h => by simp [frisketlaw14_ReorderOnce.j0] at h, fun _ _ _ r h => by simp [frisketlaw14_ReorderOnce.j1] at h, fun _ _ _ r h => by simp [frisketlaw14_ReorderOnce.l0] at h⟩
  | k + 1 => by
    obtain ⟨ih0, ih1, ih2⟩ := frisketlaw14_ReorderOnce.mono_l k
    refine ⟨?_, ?_, ?_⟩
    · intro y0 y1 y2
      unfold frisketlaw14_ReorderOnce.j0
      repeat' first
      | (with_reducible exact ih0 _ _ _)
      | (with_reducible exact ih1 _ _ _)
      | (with_reducible exact ih2 _ _ _)
      | (with_reducible exact frisketlaw14_alive.mono _)
      | (with_reducible exact frisketref01_Ints.mono _ _ _)
      | (with_reducible exact reorder_Back.mono _ _)
      | (with_reducible exact LeO.refl _)
      | (with_reducible exact LeO.none _)
      | (with_reducible refine LeO.ite ?_ ?_)
      | (with_reducible refine LeO.bind ?_ (fun _ => ?_))
      | exact ih0 _ _ _
      | exact ih1 _ _ _
      | exact ih2 _ _ _
      | exact frisketlaw14_alive.mono _
      | exact frisketref01_Ints.mono _ _ _
      | exact reorder_Back.mono _ _
      | exact LeO.none _
      | refine LeO.ite ?_ ?_
      | refine LeO.bind ?_ (fun _ => ?_)
    · intro y0 y1 y2
      unfold frisketlaw14_ReorderOnce.j1
      repeat' first
      | (with_reducible exact ih0 _ _ _)
      | (with_reducible exact ih1 _ _ _)
      | (with_reducible exact ih2 _ _ _)
      | (with_reducible exact frisketlaw14_alive.mono _)
      | (with_reducible exact frisketref01_Ints.mono _ _ _)
      | (with_reducible exact reorder_Back.mono _ _)
      | (with_reducible exact LeO.refl _)
      | (with_reducible exact LeO.none _)
      | (with_reducible refine LeO.ite ?_ ?_)
      | (with_reducible refine LeO.bind ?_ (fun _ => ?_))
      | exact ih0 _ _ _
      | exact ih1 _ _ _
      | exact ih2 _ _ _
      | exact frisketlaw14_alive.mono _
      | exact frisketref01_Ints.mono _ _ _
      | exact reorder_Back.mono _ _
      | exact LeO.none _
      | refine LeO.ite ?_ ?_
      | refine LeO.bind ?_ (fun _ => ?_)
    · intro y0 y1 y2
      unfold frisketlaw14_ReorderOnce.l0
      repeat' first
      | (with_reducible exact ih0 _ _ _)
      | (with_reducible exact ih1 _ _ _)
      | (with_reducible exact ih2 _ _ _)
      | (with_reducible exact frisketlaw14_alive.mono _)
      | (with_reducible exact frisketref01_Ints.mono _ _ _)
      | (with_reducible exact reorder_Back.mono _ _)
      | (with_reducible exact LeO.refl _)
      | (with_reducible exact LeO.none _)
      | (with_reducible refine LeO.ite ?_ ?_)
      | (with_reducible refine LeO.bind ?_ (fun _ => ?_))
      | exact ih0 _ _ _
      | exact ih1 _ _ _
      | exact ih2 _ _ _
      | exact frisketlaw14_alive.mono _
      | exact frisketref01_Ints.mono _ _ _
      | exact reorder_Back.mono _ _
      | exact LeO.none _
      | refine LeO.ite ?_ ?_
      | refine LeO.bind ?_ (fun _ => ?_)
theorem frisketlaw14_ReorderOnce.mono : ∀ a0 k, LeO (frisketlaw14_ReorderOnce.f k a0) (frisketlaw14_ReorderOnce.f (k + 1) a0) := by
  intro a0 k
  obtain ⟨ih0, ih1, ih2⟩ := frisketlaw14_ReorderOnce.mono_l k
  unfold frisketlaw14_ReorderOnce.f
  repeat' first
      | (with_reducible exact ih0 _ _ _)
      | (with_reducible exact ih1 _ _ _)
      | (with_reducible exact ih2 _ _ _)
      | (with_reducible exact frisketlaw14_alive.mono _)
      | (with_reducible exact frisketref01_Ints.mono _ _ _)
      | (with_reducible exact reorder_Back.mono _ _)
      | (with_reducible exact LeO.refl _)
      | (with_reducible exact LeO.none _)
      | (with_reducible refine LeO.ite ?_ ?_)
      | (with_reducible refine LeO.bind ?_ (fun _ => ?_))
      | exact ih0 _ _ _
      | exact ih1 _ _ _
      | exact ih2 _ _ _
      | exact frisketlaw14_alive.mono _
      | exact frisketref01_Ints.mono _ _ _
      | exact reorder_Back.mono _ _
      | exact LeO.none _
      | refine LeO.ite ?_ ?_
      | refine LeO.bind ?_ (fun _ => ?_)
set_option maxHeartbeats 8000000 in
set_option maxRecDepth 100000 in
theorem frisketlaw14_ReorderOnce.calls (k : Nat) (A0 : Option Addr) (c0 : Nat) (l0 : List Int) (r : Bool) (w : World) (hr0 : Kd.C (Kd.int .i64) w A0 l0.length l0) (hc0 : l0.length ≤ c0) (hrt : r = true) (h : frisketlaw14_ReorderOnce.f k l0 = some r) :
    Calls Try.prog 4 #[.slice A0 l0.length c0] w fun e w' => e = .returned (.bool r) ∧ Below w.heap.size w w' := by
  have HR0 := Aside0.mk hr0
  have HC0 := Aside0.mk hc0
  clear hr0 hc0
  have HB := Aside0.mk (Below.refl w.heap.size w)
  have HRT := Aside0.mk hrt
  clear hrt
  have H : ((reorder_Order.f l0).bind fun bt219 => (if (l0.length : Int) > 200 then (frisketlaw14_ReorderOnce.j0 k l0 bt219.1 true) else (frisketlaw14_ReorderOnce.j0 k l0 bt219.1 (bt219.2 != 0)))) = some r := h
  clear h
  replace H := Option.bind_eq_some_iff.mp H
  obtain ⟨⟨t219, t220⟩, A20, H⟩ := H
  replace H : (if (l0.length : Int) > 200 then (frisketlaw14_ReorderOnce.j0 k l0 t219 true) else (frisketlaw14_ReorderOnce.j0 k l0 t219 (t220 != 0))) = some r := H
  have A2 := Aside0.mk A20
  clear A20
  have HC3 := Aside0.mk H
  clear H
  go_enter Try.func4, Try.ntmps4
  go_upto_region 2 with (first | (go_at_call 9; (with_reducible refine (reorder_Order.calls _ _ l0 t219 t220 _ ?side1 ?side2 A2.out).mono ?_); (case side1 => repeat (first | exact HR0.out | (with_reducible refine Kd.C_alloc ?_ _) | (with_reducible refine Kd.C_drewN ?_ _) | (with_reducible refine Kd.C_drew ?_))); (case side2 => exact HC0.out); rintro e w4 ⟨v221, rfl, ho0, hb⟩; have n0_ := Aside0.mk (Kd.R_lower ho0 (below_size (by repeat (first | (with_reducible first | exact HB.out | apply below_alloc | apply pw_below_drewN | apply below_drew1) | exact HB.out)))); have n1_ := Aside0.mk (below_step (by repeat (first | (with_reducible first | exact HB.out | apply below_alloc | apply pw_below_drewN | apply below_drew1) | exact HB.out)) hb); clear HB; have HO222 := n0_; have HB := n1_; clear n0_ n1_; (try clear hb); (try clear hb2); (try clear hk); (try clear hi); (try clear ho0)))
  repeat (go_quiet (first | (go_at_call 9; (with_reducible refine (reorder_Order.calls _ _ l0 t219 t220 _ ?side1 ?side2 A2.out).mono ?_); (case side1 => repeat (first | exact HR0.out | (with_reducible refine Kd.C_alloc ?_ _) | (with_reducible refine Kd.C_drewN ?_ _) | (with_reducible refine Kd.C_drew ?_))); (case side2 => exact HC0.out); rintro e w4 ⟨v221, rfl, ho0, hb⟩; have n0_ := Aside0.mk (Kd.R_lower ho0 (below_size (by repeat (first | (with_reducible first | exact HB.out | apply below_alloc | apply pw_below_drewN | apply below_drew1) | exact HB.out)))); have n1_ := Aside0.mk (below_step (by repeat (first | (with_reducible first | exact HB.out | apply below_alloc | apply pw_below_drewN | apply below_drew1) | exact HB.out)) hb); clear HB; have HO222 := n0_; have HB := n1_; clear n0_ n1_; (try clear hb); (try clear hb2); (try clear hk); (try clear hi); (try clear ho0))); go_upto_region 2 with (first | (go_at_call 9; (with_reducible refine (reorder_Order.calls _ _ l0 t219 t220 _ ?side1 ?side2 A2.out).mono ?_); (case side1 => repeat (first | exact HR0.out | (with_reducible refine Kd.C_alloc ?_ _) | (with_reducible refine Kd.C_drewN ?_ _) | (with_reducible refine Kd.C_drew ?_))); (case side2 => exact HC0.out); rintro e w4 ⟨v221, rfl, ho0, hb⟩; have n0_ := Aside0.mk (Kd.R_lower ho0 (below_size (by repeat (first | (with_reducible first | exact HB.out | apply below_alloc | apply pw_below_drewN | apply below_drew1) | exact HB.out)))); have n1_ := Aside0.mk (below_step (by repeat (first | (with_reducible first | exact HB.out | apply below_alloc | apply pw_below_drewN | apply below_drew1) | exact HB.out)) hb); clear HB; have HO222 := n0_; have HB := n1_; clear n0_ n1_; (try clear hb); (try clear hb2); (try clear hk); (try clear hi); (try clear ho0))))
  (try simp only [Act.put, List.setIfInBounds_toArray, List.set_cons_zero, List.set_cons_succ])
  go_cut [22] (fun v22 wc => ∃ (kq : Nat) (x22_2 : Bool), v22 = .bool x22_2 ∧ Aside0 (frisketlaw14_ReorderOnce.j0 kq l0 t219 x22_2 = some r) ∧ Aside0 (kq ≤ k) ∧ Aside0 (Kd.R (Kd.int .i64) 3 wc w.heap.size (fun _ => True) v221 t219) ∧ Aside0 (Below w.heap.size w wc))
  case first =>
    have H := HC3.out
    clear HC3
    by_cases c5 : (l0.length : Int) > 200
    · rw [if_pos c5] at H
      have c5b0 : decide (200 < (l0.length : Int)) = true := decide_eq_true c5
      have c5b1 : decide (200 < l0.length) = true := decide_eq_true (by omega)
      clear c5
      (first | rw [c5b0] | (simp only [i64_w, i32_w]; rw [c5b0]) | skip)
      have H' := Aside0.mk H
      clear H
      go_wp2
      repeat (go_quiet (fail); try go_wp2)
      go_meet
      case rel => exact ⟨_, (true), (by first | rfl | (simp; done) | (simp [*]; done)), H', ⟨by first | omega | exact Nat.le_refl _⟩, ⟨by (with_reducible repeat (first | apply Kd.R_alloc | apply Kd.R_drewN | apply Kd.R_drew)); exact HO222.out⟩, ⟨by repeat (first | (with_reducible first | exact HB.out | apply below_alloc | apply pw_below_drewN | apply below_drew1) | exact HB.out)⟩⟩
    · rw [if_neg c5] at H
      have c5b0 : decide (200 < (l0.length : Int)) = false := decide_eq_false c5
      have c5b1 : decide (200 < l0.length) = false := decide_eq_false (by omega)
      clear c5
      (first | rw [c5b0] | (simp only [i64_w, i32_w]; rw [c5b0]) | skip)
      have H' := Aside0.mk H
      clear H
      go_wp2
      repeat (go_quiet (fail); try go_wp2)
      go_meet
      case rel => exact ⟨_, ((t220 != 0)), (by first | rfl | (simp; done) | (simp [*]; done)), H', ⟨by first | omega | exact Nat.le_refl _⟩, ⟨by (with_reducible repeat (first | apply Kd.R_alloc | apply Kd.R_drewN | apply Kd.R_drew)); exact HO222.out⟩, ⟨by repeat (first | (with_reducible first | exact HB.out | apply below_alloc | apply pw_below_drewN | apply below_drew1) | exact HB.out)⟩⟩
  case rest =>
    clear HC3
    try clear p2
    try clear c4
    try clear c5
    try clear c5b0
    try clear c5b1
    obtain ⟨kq, x22_2, rfl, HA, HJ2, HO_3, HB⟩ := hcut
    cases kq with
    | zero => exact absurd HA.out (by simp [frisketlaw14_ReorderOnce.j0])
    | succ kj2 =>
      have H := HA.out
      clear HA
      simp only [frisketlaw14_ReorderOnce.j0] at H
      by_cases c6 : x22_2 = true
      · subst c6
        have H1 : ((frisketlaw14_alive.f kj2).bind fun t223 => (some t223)) = some r := by rw [if_pos rfl] at H; exact H
        clear H
        have H := H1
        clear H1
        replace H := Option.bind_eq_some_iff.mp H
        obtain ⟨t223, A70, H⟩ := H
        replace H : (some t223) = some r := H
        have A7 := Aside0.mk A70
        clear A70
        obtain rfl := Option.some.inj H
        go_wp2_with (first | (go_at_call 8; (with_reducible refine (frisketlaw14_alive.calls kj2  t223 _ A7.out).mono ?_); rintro e w8 ⟨rfl, hb⟩; have n0_ := Aside0.mk (Kd.R_below (by (with_reducible repeat (first | apply Kd.R_alloc | apply Kd.R_drewN | apply Kd.R_drew)); exact HO_3.out) hb); have n1_ := Aside0.mk (below_step (by repeat (first | (with_reducible first | exact HB.out | apply below_alloc | apply pw_below_drewN | apply below_drew1) | exact HB.out)) hb); clear HO_3; clear HB; have HO_3 := n0_; have HB := n1_; clear n0_ n1_; (try clear hb); (try clear hb2); (try clear hk); (try clear hi)))
        repeat (go_quiet (first | (go_at_call 8; (with_reducible refine (frisketlaw14_alive.calls kj2  t223 _ A7.out).mono ?_); rintro e w8 ⟨rfl, hb⟩; have n0_ := Aside0.mk (Kd.R_below (by (with_reducible repeat (first | apply Kd.R_alloc | apply Kd.R_drewN | apply Kd.R_drew)); exact HO_3.out) hb); have n1_ := Aside0.mk (below_step (by repeat (first | (with_reducible first | exact HB.out | apply below_alloc | apply pw_below_drewN | apply below_drew1) | exact HB.out)) hb); clear HO_3; clear HB; have HO_3 := n0_; have HB := n1_; clear n0_ n1_; (try clear hb); (try clear hb2); (try clear hk); (try clear hi))); try go_wp2_with (first | (go_at_call 8; (with_reducible refine (frisketlaw14_alive.calls kj2  t223 _ A7.out).mono ?_); rintro e w8 ⟨rfl, hb⟩; have n0_ := Aside0.mk (Kd.R_below (by (with_reducible repeat (first | apply Kd.R_alloc | apply Kd.R_drewN | apply Kd.R_drew)); exact HO_3.out) hb); have n1_ := Aside0.mk (below_step (by repeat (first | (with_reducible first | exact HB.out | apply below_alloc | apply pw_below_drewN | apply below_drew1) | exact HB.out)) hb); clear HO_3; clear HB; have HO_3 := n0_; have HB := n1_; clear n0_ n1_; (try clear hb); (try clear hb2); (try clear hk); (try clear hi))))
        go_ret
        exact ⟨by first | rfl | (simp [errW_none, errW_some] <;> rfl) | (simp [*, errW_none, errW_some] <;> rfl), by repeat (first | (with_reducible first | exact HB.out | apply below_alloc | apply pw_below_drewN | apply below_drew1) | exact HB.out)⟩
      · replace c6 := Bool.eq_false_iff.mpr c6
        subst c6
        have H1 : ((reorder_Back.f kj2 t219).bind fun bt224 => ((reorder_Back.f kj2 bt224.1).bind fun bt228 => (if bt224.2 = 0 then (if bt228.2 = 0 then (if (t219.length : Int) = (l0.length : Int) then (if (bt224.1.length : Int) = (t219.length : Int) then ((frisketref01_Ints.f kj2 bt228.1 t219).bind fun t232 => (frisketlaw14_ReorderOnce.j1 kj2 l0 bt224.1 (!t232))) else (frisketlaw14_ReorderOnce.j1 kj2 l0 bt224.1 true)) else (frisketlaw14_ReorderOnce.j1 kj2 l0 bt224.1 true)) else (frisketlaw14_ReorderOnce.j1 kj2 l0 bt224.1 true)) else (frisketlaw14_ReorderOnce.j1 kj2 l0 bt224.1 true)))) = some r := by rw [if_neg (show ¬ (false = true) by decide)] at H; exact H
        clear H
        have H := H1
        clear H1
        replace H := Option.bind_eq_some_iff.mp H
        obtain ⟨⟨t224, t225⟩, A90, H⟩ := H
        replace H : ((reorder_Back.f kj2 t224).bind fun bt228 => (if t225 = 0 then (if bt228.2 = 0 then (if (t219.length : Int) = (l0.length : Int) then (if (t224.length : Int) = (t219.length : Int) then ((frisketref01_Ints.f kj2 bt228.1 t219).bind fun t232 => (frisketlaw14_ReorderOnce.j1 kj2 l0 t224 (!t232))) else (frisketlaw14_ReorderOnce.j1 kj2 l0 t224 true)) else (frisketlaw14_ReorderOnce.j1 kj2 l0 t224 true)) else (frisketlaw14_ReorderOnce.j1 kj2 l0 t224 true)) else (frisketlaw14_ReorderOnce.j1 kj2 l0 t224 true))) = some r := H
        have A9 := Aside0.mk A90
        clear A90
        replace H := Option.bind_eq_some_iff.mp H
        obtain ⟨⟨t228, t229⟩, A100, H⟩ := H
        replace H : (if t225 = 0 then (if t229 = 0 then (if (t219.length : Int) = (l0.length : Int) then (if (t224.length : Int) = (t219.length : Int) then ((frisketref01_Ints.f kj2 t228 t219).bind fun t232 => (frisketlaw14_ReorderOnce.j1 kj2 l0 t224 (!t232))) else (frisketlaw14_ReorderOnce.j1 kj2 l0 t224 true)) else (frisketlaw14_ReorderOnce.j1 kj2 l0 t224 true)) else (frisketlaw14_ReorderOnce.j1 kj2 l0 t224 true)) else (frisketlaw14_ReorderOnce.j1 kj2 l0 t224 true)) = some r := H
        have A10 := Aside0.mk A100
        clear A100
        have HC11 := Aside0.mk H
        clear H
        obtain ⟨Ao12, co12, eo12⟩ := Kd.R_slice HO_3.out
        subst eo12
        go_upto_region 6 with (first | (go_at_call 13; (with_reducible refine (reorder_Back.calls kj2 _ _ t219 t224 t225 _ ?side1 ?side2 A9.out).mono ?_); (case side1 => repeat (first | exact (Kd.R_reads' HO_3.out).2.2 | (with_reducible refine Kd.C_alloc ?_ _) | (with_reducible refine Kd.C_drewN ?_ _) | (with_reducible refine Kd.C_drew ?_))); (case side2 => exact (Kd.R_reads' HO_3.out).2.1); rintro e w13 ⟨v226, rfl, ho0, hb⟩; have n0_ := Aside0.mk (Kd.R_elder' (by (with_reducible repeat (first | apply Kd.R_alloc | apply Kd.R_drewN | apply Kd.R_drew)); exact HO_3.out) (Kd.R_base ho0) hb); have n1_ := Aside0.mk (Kd.R_lower (Kd.R_new' ho0 (Kd.R_lt (by (with_reducible repeat (first | apply Kd.R_alloc | apply Kd.R_drewN | apply Kd.R_drew)); exact HO_3.out))) (below_size (by repeat (first | (with_reducible first | exact HB.out | apply below_alloc | apply pw_below_drewN | apply below_drew1) | exact HB.out)))); have n2_ := Aside0.mk (below_step (by repeat (first | (with_reducible first | exact HB.out | apply below_alloc | apply pw_below_drewN | apply below_drew1) | exact HB.out)) hb); clear HO_3; clear HB; have HO_3 := n0_; have HO227 := n1_; have HB := n2_; clear n0_ n1_ n2_; (try clear hb); (try clear hb2); (try clear hk); (try clear hi); (try clear ho0); obtain ⟨Ao14, co14, eo14⟩ := Kd.R_slice HO227.out; subst eo14) | (go_at_call 13; (with_reducible refine (reorder_Back.calls kj2 _ _ t224 t228 t229 _ ?side1 ?side2 A10.out).mono ?_); (case side1 => repeat (first | exact (Kd.R_reads' HO227.out).2.2 | (with_reducible refine Kd.C_alloc ?_ _) | (with_reducible refine Kd.C_drewN ?_ _) | (with_reducible refine Kd.C_drew ?_))); (case side2 => exact (Kd.R_reads' HO227.out).2.1); rintro e w15 ⟨v230, rfl, ho0, hb⟩; have n0_ := Aside0.mk (Kd.R_elder' (by (with_reducible repeat (first | apply Kd.R_alloc | apply Kd.R_drewN | apply Kd.R_drew)); exact HO_3.out) (Kd.R_base ho0) hb); have n1_ := Aside0.mk (Kd.R_elder' (by (with_reducible repeat (first | apply Kd.R_alloc | apply Kd.R_drewN | apply Kd.R_drew)); exact HO227.out) (Kd.R_base ho0) hb); have n2_ := Aside0.mk (Kd.R_lower (Kd.R_new' (Kd.R_new' ho0 (Kd.R_lt (by (with_reducible repeat (first | apply Kd.R_alloc | apply Kd.R_drewN | apply Kd.R_drew)); exact HO_3.out))) (Kd.R_lt (by (with_reducible repeat (first | apply Kd.R_alloc | apply Kd.R_drewN | apply Kd.R_drew)); exact HO227.out))) (below_size (by repeat (first | (with_reducible first | exact HB.out | apply below_alloc | apply pw_below_drewN | apply below_drew1) | exact HB.out)))); have n3_ := Aside0.mk (below_step (by repeat (first | (with_reducible first | exact HB.out | apply below_alloc | apply pw_below_drewN | apply below_drew1) | exact HB.out)) hb); clear HO_3; clear HO227; clear HB; have HO_3 := n0_; have HO227 := n1_; have HO231 := n2_; have HB := n3_; clear n0_ n1_ n2_ n3_; (try clear hb); (try clear hb2); (try clear hk); (try clear hi); (try clear ho0)))
        repeat (go_quiet (first | (go_at_call 13; (with_reducible refine (reorder_Back.calls kj2 _ _ t219 t224 t225 _ ?side1 ?side2 A9.out).mono ?_); (case side1 => repeat (first | exact (Kd.R_reads' HO_3.out).2.2 | (with_reducible refine Kd.C_alloc ?_ _) | (with_reducible refine Kd.C_drewN ?_ _) | (with_reducible refine Kd.C_drew ?_))); (case side2 => exact (Kd.R_reads' HO_3.out).2.1); rintro e w13 ⟨v226, rfl, ho0, hb⟩; have n0_ := Aside0.mk (Kd.R_elder' (by (with_reducible repeat (first | apply Kd.R_alloc | apply Kd.R_drewN | apply Kd.R_drew)); exact HO_3.out) (Kd.R_base ho0) hb); have n1_ := Aside0.mk (Kd.R_lower (Kd.R_new' ho0 (Kd.R_lt (by (with_reducible repeat (first | apply Kd.R_alloc | apply Kd.R_drewN | apply Kd.R_drew)); exact HO_3.out))) (below_size (by repeat (first | (with_reducible first | exact HB.out | apply below_alloc | apply pw_below_drewN | apply below_drew1) | exact HB.out)))); have n2_ := Aside0.mk (below_step (by repeat (first | (with_reducible first | exact HB.out | apply below_alloc | apply pw_below_drewN | apply below_drew1) | exact HB.out)) hb); clear HO_3; clear HB; have HO_3 := n0_; have HO227 := n1_; have HB := n2_; clear n0_ n1_ n2_; (try clear hb); (try clear hb2); (try clear hk); (try clear hi); (try clear ho0); obtain ⟨Ao14, co14, eo14⟩ := Kd.R_slice HO227.out; subst eo14) | (go_at_call 13; (with_reducible refine (reorder_Back.calls kj2 _ _ t224 t228 t229 _ ?side1 ?side2 A10.out).mono ?_); (case side1 => repeat (first | exact (Kd.R_reads' HO227.out).2.2 | (with_reducible refine Kd.C_alloc ?_ _) | (with_reducible refine Kd.C_drewN ?_ _) | (with_reducible refine Kd.C_drew ?_))); (case side2 => exact (Kd.R_reads' HO227.out).2.1); rintro e w15 ⟨v230, rfl, ho0, hb⟩; have n0_ := Aside0.mk (Kd.R_elder' (by (with_reducible repeat (first | apply Kd.R_alloc | apply Kd.R_drewN | apply Kd.R_drew)); exact HO_3.out) (Kd.R_base ho0) hb); have n1_ := Aside0.mk (Kd.R_elder' (by (with_reducible repeat (first | apply Kd.R_alloc | apply Kd.R_drewN | apply Kd.R_drew)); exact HO227.out) (Kd.R_base ho0) hb); have n2_ := Aside0.mk (Kd.R_lower (Kd.R_new' (Kd.R_new' ho0 (Kd.R_lt (by (with_reducible repeat (first | apply Kd.R_alloc | apply Kd.R_drewN | apply Kd.R_drew)); exact HO_3.out))) (Kd.R_lt (by (with_reducible repeat (first | apply Kd.R_alloc | apply Kd.R_drewN | apply Kd.R_drew)); exact HO227.out))) (below_size (by repeat (first | (with_reducible first | exact HB.out | apply below_alloc | apply pw_below_drewN | apply below_drew1) | exact HB.out)))); have n3_ := Aside0.mk (below_step (by repeat (first | (with_reducible first | exact HB.out | apply below_alloc | apply pw_below_drewN | apply below_drew1) | exact HB.out)) hb); clear HO_3; clear HO227; clear HB; have HO_3 := n0_; have HO227 := n1_; have HO231 := n2_; have HB := n3_; clear n0_ n1_ n2_ n3_; (try clear hb); (try clear hb2); (try clear hk); (try clear hi); (try clear ho0))); go_upto_region 6 with (first | (go_at_call 13; (with_reducible refine (reorder_Back.calls kj2 _ _ t219 t224 t225 _ ?side1 ?side2 A9.out).mono ?_); (case side1 => repeat (first | exact (Kd.R_reads' HO_3.out).2.2 | (with_reducible refine Kd.C_alloc ?_ _) | (with_reducible refine Kd.C_drewN ?_ _) | (with_reducible refine Kd.C_drew ?_))); (case side2 => exact (Kd.R_reads' HO_3.out).2.1); rintro e w13 ⟨v226, rfl, ho0, hb⟩; have n0_ := Aside0.mk (Kd.R_elder' (by (with_reducible repeat (first | apply Kd.R_alloc | apply Kd.R_drewN | apply Kd.R_drew)); exact HO_3.out) (Kd.R_base ho0) hb); have n1_ := Aside0.mk (Kd.R_lower (Kd.R_new' ho0 (Kd.R_lt (by (with_reducible repeat (first | apply Kd.R_alloc | apply Kd.R_drewN | apply Kd.R_drew)); exact HO_3.out))) (below_size (by repeat (first | (with_reducible first | exact HB.out | apply below_alloc | apply pw_below_drewN | apply below_drew1) | exact HB.out)))); have n2_ := Aside0.mk (below_step (by repeat (first | (with_reducible first | exact HB.out | apply below_alloc | apply pw_below_drewN | apply below_drew1) | exact HB.out)) hb); clear HO_3; clear HB; have HO_3 := n0_; have HO227 := n1_; have HB := n2_; clear n0_ n1_ n2_; (try clear hb); (try clear hb2); (try clear hk); (try clear hi); (try clear ho0); obtain ⟨Ao14, co14, eo14⟩ := Kd.R_slice HO227.out; subst eo14) | (go_at_call 13; (with_reducible refine (reorder_Back.calls kj2 _ _ t224 t228 t229 _ ?side1 ?side2 A10.out).mono ?_); (case side1 => repeat (first | exact (Kd.R_reads' HO227.out).2.2 | (with_reducible refine Kd.C_alloc ?_ _) | (with_reducible refine Kd.C_drewN ?_ _) | (with_reducible refine Kd.C_drew ?_))); (case side2 => exact (Kd.R_reads' HO227.out).2.1); rintro e w15 ⟨v230, rfl, ho0, hb⟩; have n0_ := Aside0.mk (Kd.R_elder' (by (with_reducible repeat (first | apply Kd.R_alloc | apply Kd.R_drewN | apply Kd.R_drew)); exact HO_3.out) (Kd.R_base ho0) hb); have n1_ := Aside0.mk (Kd.R_elder' (by (with_reducible repeat (first | apply Kd.R_alloc | apply Kd.R_drewN | apply Kd.R_drew)); exact HO227.out) (Kd.R_base ho0) hb); have n2_ := Aside0.mk (Kd.R_lower (Kd.R_new' (Kd.R_new' ho0 (Kd.R_lt (by (with_reducible repeat (first | apply Kd.R_alloc | apply Kd.R_drewN | apply Kd.R_drew)); exact HO_3.out))) (Kd.R_lt (by (with_reducible repeat (first | apply Kd.R_alloc | apply Kd.R_drewN | apply Kd.R_drew)); exact HO227.out))) (below_size (by repeat (first | (with_reducible first | exact HB.out | apply below_alloc | apply pw_below_drewN | apply below_drew1) | exact HB.out)))); have n3_ := Aside0.mk (below_step (by repeat (first | (with_reducible first | exact HB.out | apply below_alloc | apply pw_below_drewN | apply below_drew1) | exact HB.out)) hb); clear HO_3; clear HO227; clear HB; have HO_3 := n0_; have HO227 := n1_; have HO231 := n2_; have HB := n3_; clear n0_ n1_ n2_ n3_; (try clear hb); (try clear hb2); (try clear hk); (try clear hi); (try clear ho0))))
        (try simp only [Act.put, List.setIfInBounds_toArray, List.set_cons_zero, List.set_cons_succ])
        go_cut [59] (fun v59 wc => ∃ (kq : Nat) (x59_10 : Bool), v59 = .bool x59_10 ∧ Aside0 (frisketlaw14_ReorderOnce.j1 kq l0 t224 x59_10 = some r) ∧ Aside0 (kq ≤ kj2) ∧ Aside0 (Kd.R (Kd.int .i64) 3 wc w.heap.size (fun _ => True) (.slice Ao14 t224.length co14) t224) ∧ Aside0 (Below w.heap.size w wc))
        case first =>
          have H := HC11.out
          clear HC11
          by_cases c16 : t225 = 0
          · rw [if_pos c16] at H
            have c16b0 : (t225 == 0) = true := beq_iff_eq.mpr c16
            have c16b1 : (t225 != 0) = false := bne_eq_false_iff_eq.mpr c16
            clear c16
            (first | rw [c16b0] | (simp only [i64_w, i32_w]; rw [c16b0]) | skip)
            by_cases c17 : t229 = 0
            · rw [if_pos c17] at H
              have c17b0 : (t229 == 0) = true := beq_iff_eq.mpr c17
              have c17b1 : (t229 != 0) = false := bne_eq_false_iff_eq.mpr c17
              clear c17
              by_cases c18 : (t219.length : Int) = (l0.length : Int)
              · rw [if_pos c18] at H
                have c18b0 : ((t219.length : Int) == (l0.length : Int)) = true := beq_iff_eq.mpr c18
                have c18b1 : ((t219.length : Int) != (l0.length : Int)) = false := bne_eq_false_iff_eq.mpr c18
                have c18b2 : (t219.length == l0.length) = true := by first | simpa using c18 | (simp at c18 ⊢; omega)
                clear c18
                by_cases c19 : (t224.length : Int) = (t219.length : Int)
                · rw [if_pos c19] at H
                  have c19b0 : ((t224.length : Int) == (t219.length : Int)) = true := beq_iff_eq.mpr c19
                  have c19b1 : ((t224.length : Int) != (t219.length : Int)) = false := bne_eq_false_iff_eq.mpr c19
                  have c19b2 : (t224.length == t219.length) = true := by first | simpa using c19 | (simp at c19 ⊢; omega)
                  clear c19
                  replace H := Option.bind_eq_some_iff.mp H
                  obtain ⟨t232, A200, H⟩ := H
                  replace H : (frisketlaw14_ReorderOnce.j1 kj2 l0 t224 (!t232)) = some r := H
                  have A20 := Aside0.mk A200
                  clear A200
                  have H' := Aside0.mk H
                  clear H
                  obtain ⟨Ao21, co21, eo21⟩ := Kd.R_slice HO231.out
                  subst eo21
                  go_wp2_with (first | (go_at_call 15; (with_reducible refine (frisketref01_Ints.calls kj2 _ _ t228 _ _ t219 t232 _ ?side1 ?side2 ?side3 ?side4 A20.out).mono ?_); (case side1 => repeat (first | exact (Kd.R_reads' HO231.out).2.2 | (with_reducible refine Kd.C_alloc ?_ _) | (with_reducible refine Kd.C_drewN ?_ _) | (with_reducible refine Kd.C_drew ?_))); (case side2 => exact (Kd.R_reads' HO231.out).2.1); (case side3 => repeat (first | exact (Kd.R_reads' HO_3.out).2.2 | (with_reducible refine Kd.C_alloc ?_ _) | (with_reducible refine Kd.C_drewN ?_ _) | (with_reducible refine Kd.C_drew ?_))); (case side4 => exact (Kd.R_reads' HO_3.out).2.1); rintro e w' ⟨rfl, ⟨nd, rfl⟩⟩; (try first | exact ⟨rfl, _, World.drewN_drewN _ _ _⟩ | exact ⟨rfl, _, Eq.trans (World.drewN_drewN _ _ _) (congrArg (World.drewN _) (Nat.add_assoc _ _ _))⟩)))
                  repeat (go_quiet (first | (go_at_call 15; (with_reducible refine (frisketref01_Ints.calls kj2 _ _ t228 _ _ t219 t232 _ ?side1 ?side2 ?side3 ?side4 A20.out).mono ?_); (case side1 => repeat (first | exact (Kd.R_reads' HO231.out).2.2 | (with_reducible refine Kd.C_alloc ?_ _) | (with_reducible refine Kd.C_drewN ?_ _) | (with_reducible refine Kd.C_drew ?_))); (case side2 => exact (Kd.R_reads' HO231.out).2.1); (case side3 => repeat (first | exact (Kd.R_reads' HO_3.out).2.2 | (with_reducible refine Kd.C_alloc ?_ _) | (with_reducible refine Kd.C_drewN ?_ _) | (with_reducible refine Kd.C_drew ?_))); (case side4 => exact (Kd.R_reads' HO_3.out).2.1); rintro e w' ⟨rfl, ⟨nd, rfl⟩⟩; (try first | exact ⟨rfl, _, World.drewN_drewN _ _ _⟩ | exact ⟨rfl, _, Eq.trans (World.drewN_drewN _ _ _) (congrArg (World.drewN _) (Nat.add_assoc _ _ _))⟩))); try go_wp2_with (first | (go_at_call 15; (with_reducible refine (frisketref01_Ints.calls kj2 _ _ t228 _ _ t219 t232 _ ?side1 ?side2 ?side3 ?side4 A20.out).mono ?_); (case side1 => repeat (first | exact (Kd.R_reads' HO231.out).2.2 | (with_reducible refine Kd.C_alloc ?_ _) | (with_reducible refine Kd.C_drewN ?_ _) | (with_reducible refine Kd.C_drew ?_))); (case side2 => exact (Kd.R_reads' HO231.out).2.1); (case side3 => repeat (first | exact (Kd.R_reads' HO_3.out).2.2 | (with_reducible refine Kd.C_alloc ?_ _) | (with_reducible refine Kd.C_drewN ?_ _) | (with_reducible refine Kd.C_drew ?_))); (case side4 => exact (Kd.R_reads' HO_3.out).2.1); rintro e w' ⟨rfl, ⟨nd, rfl⟩⟩; (try first | exact ⟨rfl, _, World.drewN_drewN _ _ _⟩ | exact ⟨rfl, _, Eq.trans (World.drewN_drewN _ _ _) (congrArg (World.drewN _) (Nat.add_assoc _ _ _))⟩))))
                  go_meet
                  case rel => exact ⟨_, (!t232), (by first | rfl | (simp; done) | (simp [*]; done)), H', ⟨by have := HJ2.out; first | omega | exact Nat.le_refl _⟩, ⟨by (with_reducible repeat (first | apply Kd.R_alloc | apply Kd.R_drewN | apply Kd.R_drew)); exact Kd.R_mono HO227.out (fun _ hk => trivial)⟩, ⟨by repeat (first | (with_reducible first | exact HB.out | apply below_alloc | apply pw_below_drewN | apply below_drew1) | exact HB.out)⟩⟩
                · rw [if_neg c19] at H
                  have c19b0 : ((t224.length : Int) == (t219.length : Int)) = false := beq_eq_false_iff_ne.mpr c19
                  have c19b1 : ((t224.length : Int) != (t219.length : Int)) = true := bne_iff_ne.mpr c19
                  have c19b2 : (t224.length == t219.length) = false := by first | simpa using c19 | (simp at c19 ⊢; omega)
                  have H' := Aside0.mk H
                  clear H
                  go_wp2
                  repeat (go_quiet (fail); try go_wp2)
                  go_meet
                  case rel => exact ⟨_, (true), (by first | rfl | (simp; done) | (simp [*]; done)), H', ⟨by have := HJ2.out; first | omega | exact Nat.le_refl _⟩, ⟨by (with_reducible repeat (first | apply Kd.R_alloc | apply Kd.R_drewN | apply Kd.R_drew)); exact Kd.R_mono HO227.out (fun _ hk => trivial)⟩, ⟨by repeat (first | (with_reducible first | exact HB.out | apply below_alloc | apply pw_below_drewN | apply below_drew1) | exact HB.out)⟩⟩
              · rw [if_neg c18] at H
                have c18b0 : ((t219.length : Int) == (l0.length : Int)) = false := beq_eq_false_iff_ne.mpr c18
                have c18b1 : ((t219.length : Int) != (l0.length : Int)) = true := bne_iff_ne.mpr c18
                have c18b2 : (t219.length == l0.length) = false := by first | simpa using c18 | (simp at c18 ⊢; omega)
                have H' := Aside0.mk H
                clear H
                go_wp2
                repeat (go_quiet (fail); try go_wp2)
                go_meet
                case rel => exact ⟨_, (true), (by first | rfl | (simp; done) | (simp [*]; done)), H', ⟨by have := HJ2.out; first | omega | exact Nat.le_refl _⟩, ⟨by (with_reducible repeat (first | apply Kd.R_alloc | apply Kd.R_drewN | apply Kd.R_drew)); exact Kd.R_mono HO227.out (fun _ hk => trivial)⟩, ⟨by repeat (first | (with_reducible first | exact HB.out | apply below_alloc | apply pw_below_drewN | apply below_drew1) | exact HB.out)⟩⟩
            · rw [if_neg c17] at H
              have c17b0 : (t229 == 0) = false := beq_eq_false_iff_ne.mpr c17
              have c17b1 : (t229 != 0) = true := bne_iff_ne.mpr c17
              have H' := Aside0.mk H
              clear H
              go_wp2
              repeat (go_quiet (fail); try go_wp2)
              go_meet
              case rel => exact ⟨_, (true), (by first | rfl | (simp; done) | (simp [*]; done)), H', ⟨by have := HJ2.out; first | omega | exact Nat.le_refl _⟩, ⟨by (with_reducible repeat (first | apply Kd.R_alloc | apply Kd.R_drewN | apply Kd.R_drew)); exact Kd.R_mono HO227.out (fun _ hk => trivial)⟩, ⟨by repeat (first | (with_reducible first | exact HB.out | apply below_alloc | apply pw_below_drewN | apply below_drew1) | exact HB.out)⟩⟩
          · rw [if_neg c16] at H
            have c16b0 : (t225 == 0) = false := beq_eq_false_iff_ne.mpr c16
            have c16b1 : (t225 != 0) = true := bne_iff_ne.mpr c16
            (first | rw [c16b0] | (simp only [i64_w, i32_w]; rw [c16b0]) | skip)
            have H' := Aside0.mk H
            clear H
            go_wp2
            repeat (go_quiet (fail); try go_wp2)
            go_meet
            case rel => exact ⟨_, (true), (by first | rfl | (simp; done) | (simp [*]; done)), H', ⟨by have := HJ2.out; first | omega | exact Nat.le_refl _⟩, ⟨by (with_reducible repeat (first | apply Kd.R_alloc | apply Kd.R_drewN | apply Kd.R_drew)); exact Kd.R_mono HO227.out (fun _ hk => trivial)⟩, ⟨by repeat (first | (with_reducible first | exact HB.out | apply below_alloc | apply pw_below_drewN | apply below_drew1) | exact HB.out)⟩⟩
        case rest =>
          clear HC11
          try clear c1
          try clear p2
          try clear c4
          try clear c5
          try clear c5b0
          try clear c5b1
          try clear c6
          try clear c16
          try clear c16b0
          try clear c16b1
          try clear c17
          try clear c17b0
          try clear c17b1
          try clear c18
          try clear c18b0
          try clear c18b1
          try clear c18b2
          try clear c19
          try clear c19b0
          try clear c19b1
          try clear c19b2
          try clear p2
          obtain ⟨kq, x59_10, rfl, HA, HJ10, HO_5, HB⟩ := hcut
          cases kq with
          | zero => exact absurd HA.out (by simp [frisketlaw14_ReorderOnce.j1])
          | succ kj10 =>
            have H := HA.out
            clear HA
            simp only [frisketlaw14_ReorderOnce.j1] at H
            by_cases c22 : x59_10 = true
            · subst c22
              have H1 : (some false) = some r := by rw [if_pos rfl] at H; exact H
              clear H
              have H := H1
              clear H1
              exact af_absurd HRT.out H (by repeat (first | exact AF.none | exact AF.false | refine AF.ite ?_ ?_ | refine AF.bind (fun _ => ?_)))
            · replace c22 := Bool.eq_false_iff.mpr c22
              subst c22
              have H1 : (frisketlaw14_ReorderOnce.l0 kj10 l0 t224 0) = some r := by rw [if_neg (show ¬ (false = true) by decide)] at H; exact H
              clear H
              have H := H1
              clear H1
              have H' := Aside0.mk H
              clear H
              go_wp2
              repeat (go_quiet (fail); try go_wp2)
              go_loopg [9] kj10 (fun kq v9 w' => ∃ (x9_3 : Int), v9 = .int .i64 x9_3 ∧ Aside0 (frisketlaw14_ReorderOnce.l0 kq l0 t224 x9_3 = some r) ∧ Aside0 (kq ≤ kj10) ∧ Aside0 (Kd.R (Kd.int .i64) 3 w' w.heap.size (fun _ => True) (.slice Ao14 t224.length co14) t224) ∧ Aside0 (Below w.heap.size w w'))
              case atStart => exact ⟨(0), (by first | rfl | (simp; done) | (simp [*]; done)), H', ⟨Nat.le_refl _⟩, ⟨by (with_reducible repeat (first | apply Kd.R_alloc | apply Kd.R_drewN | apply Kd.R_drew)); exact HO_5.out⟩, ⟨by repeat (first | (with_reducible first | exact HB.out | apply below_alloc | apply pw_below_drewN | apply below_drew1) | exact HB.out)⟩⟩
              case round =>
                clear H'
                try clear c1
                try clear c2
                try clear p2
                try clear c4
                try clear c5
                try clear c5b0
                try clear c5b1
                try clear c6
                try clear c16
                try clear c16b0
                try clear c16b1
                try clear c17
                try clear c17b0
                try clear c17b1
                try clear c18
                try clear c18b0
                try clear c18b1
                try clear c18b2
                try clear c19
                try clear c19b0
                try clear c19b1
                try clear c19b2
                try clear c22
                try clear p2
                obtain ⟨x9_3, rfl, HA, HK3, HO_5, HB⟩ := hrel
                cases gk with
                | zero => exact absurd HA.out (by simp [frisketlaw14_ReorderOnce.l0])
                | succ k3 =>
                  have H := HA.out
                  clear HA
                  simp only [frisketlaw14_ReorderOnce.l0] at H
                  by_cases c23 : (wrap64 (x9_3 + 1)) < (l0.length : Int)
                  · rw [if_pos c23] at H
                    have c23b0 : decide ((wrap64 (x9_3 + 1)) < (l0.length : Int)) = true := decide_eq_true c23
                    clear c23
                    by_cases c24 : 0 ≤ x9_3
                    · rw [if_pos c24] at H
                      have c24b0 : decide (0 ≤ x9_3) = true := decide_eq_true c24
                      clear c24
                      by_cases c25 : x9_3 < (l0.length : Int)
                      · rw [if_pos c25] at H
                        have c25b0 : decide (x9_3 < (l0.length : Int)) = true := decide_eq_true c25
                        clear c25
                        by_cases c26 : (Int.tmod (rd l0 x9_3) 2) = 1
                        · rw [if_pos c26] at H
                          have c26b0 : ((Int.tmod (rd l0 x9_3) 2) == 1) = true := beq_iff_eq.mpr c26
                          have c26b1 : ((Int.tmod (rd l0 x9_3) 2) != 1) = false := bne_eq_false_iff_eq.mpr c26
                          clear c26
                          obtain ⟨ji27, hji27⟩ : ∃ j_ : Int, (wrap64 (x9_3 + 1)) = j_ := ⟨_, rfl⟩
                          replace H : (if 0 ≤ (ji27) then (if (rd l0 x9_3) = (rd l0 (ji27)) then (if (ji27) < (t224.length : Int) then (if x9_3 < (t224.length : Int) then (if (rd t224 (ji27)) = (wrap64 ((rd t224 x9_3) + (-1))) then (frisketlaw14_ReorderOnce.l0 k3 l0 t224 ji27) else (some false)) else (none)) else (none)) else (frisketlaw14_ReorderOnce.l0 k3 l0 t224 ji27)) else (none)) = some r := by first | (rw [hji27] at H; exact H) | (simp only [hji27] at H ⊢; exact H)
                          (try rw [hji27] at c23b0)
                          have hji27w : (IntKind.i64.wrap (x9_3 + 1)) = ji27 := (i64_w _).trans hji27
                          by_cases c28 : 0 ≤ (ji27)
                          · rw [if_pos c28] at H
                            have c28b0 : decide (0 ≤ (ji27)) = true := decide_eq_true c28
                            clear c28
                            by_cases c29 : (rd l0 x9_3) = (rd l0 (ji27))
                            · rw [if_pos c29] at H
                              have c29b0 : ((rd l0 x9_3) == (rd l0 (ji27))) = true := beq_iff_eq.mpr c29
                              have c29b1 : ((rd l0 x9_3) != (rd l0 (ji27))) = false := bne_eq_false_iff_eq.mpr c29
                              clear c29
                              by_cases c30 : (ji27) < (t224.length : Int)
                              · rw [if_pos c30] at H
                                have c30b0 : decide ((ji27) < (t224.length : Int)) = true := decide_eq_true c30
                                clear c30
                                by_cases c31 : x9_3 < (t224.length : Int)
                                · rw [if_pos c31] at H
                                  have c31b0 : decide (x9_3 < (t224.length : Int)) = true := decide_eq_true c31
                                  clear c31
                                  by_cases c32 : (rd t224 (ji27)) = (wrap64 ((rd t224 x9_3) + (-1)))
                                  · rw [if_pos c32] at H
                                    have c32b0 : ((rd t224 (ji27)) == (wrap64 ((rd t224 x9_3) + (-1)))) = true := beq_iff_eq.mpr c32
                                    have c32b1 : ((rd t224 (ji27)) != (wrap64 ((rd t224 x9_3) + (-1)))) = false := bne_eq_false_iff_eq.mpr c32
                                    clear c32
                                    have H' := Aside0.mk H
                                    clear H
                                    have p234 : 0 ≤ (x9_3 : Int) := of_decide_eq_true (by first | (with_reducible assumption) | assumption)
                                    have q234 : x9_3 < (l0.length : Int) := of_decide_eq_true (by first | (with_reducible assumption) | assumption)
                                    obtain ⟨ad234, e234, hx234_0⟩ := Kd.at_int HR0.out x9_3 p234 q234
                                    cases e234
                                    replace hx234_0 := (HB.out.cell (World.block_lt_of_cell? w _ hx234_0)).trans hx234_0
                                    replace p234 := eq_true p234
                                    replace q234 := eq_true q234
                                    have p235 : 0 ≤ (x9_3 : Int) := of_decide_eq_true (by first | (with_reducible assumption) | assumption)
                                    have q235 : x9_3 < (l0.length : Int) := of_decide_eq_true (by first | (with_reducible assumption) | assumption)
                                    obtain ⟨ad235, e235, hx235_0⟩ := Kd.at_int HR0.out x9_3 p235 q235
                                    obtain rfl : ad234 = ad235 := (by injection e235)
                                    replace hx235_0 := (HB.out.cell (World.block_lt_of_cell? w _ hx235_0)).trans hx235_0
                                    replace p235 := eq_true p235
                                    replace q235 := eq_true q235
                                    have p236 : 0 ≤ ((ji27) : Int) := of_decide_eq_true (by first | (with_reducible assumption) | assumption)
                                    have q236 : (ji27) < (l0.length : Int) := of_decide_eq_true (by first | (with_reducible assumption) | assumption)
                                    obtain ⟨ad236, e236, hx236_0⟩ := Kd.at_int HR0.out (ji27) p236 q236
                                    obtain rfl : ad234 = ad236 := (by injection e236)
                                    replace hx236_0 := (HB.out.cell (World.block_lt_of_cell? w _ hx236_0)).trans hx236_0
                                    replace p236 := eq_true p236
                                    replace q236 := eq_true q236
                                    have p237 : 0 ≤ ((ji27) : Int) := of_decide_eq_true (by first | (with_reducible assumption) | assumption)
                                    have q237 : (ji27) < (t224.length : Int) := of_decide_eq_true (by first | (with_reducible assumption) | assumption)
                                    obtain ⟨ad237, e237, hx237_0⟩ := Kd.at_int (Kd.R_reads' HO_5.out).2.2 (ji27) p237 q237
                                    cases e237
                                    replace p237 := eq_true p237
                                    replace q237 := eq_true q237
                                    have p238 : 0 ≤ (x9_3 : Int) := of_decide_eq_true (by first | (with_reducible assumption) | assumption)
                                    have q238 : x9_3 < (t224.length : Int) := of_decide_eq_true (by first | (with_reducible assumption) | assumption)
                                    obtain ⟨ad238, e238, hx238_0⟩ := Kd.at_int (Kd.R_reads' HO_5.out).2.2 x9_3 p238 q238
                                    obtain rfl : ad237 = ad238 := (by injection e238)
                                    replace p238 := eq_true p238
                                    replace q238 := eq_true q238
                                    go_wp2
                                    repeat (go_quiet (fail); try go_wp2)
                                    go_roundg k3
                                    case measure => have := HJ2.out; have := HJ10.out; have := HK3.out; omega
                                    case rel => exact ⟨(ji27), (by first | rfl | (simp; done) | (simp only [← hji27] <;> (first | rfl | simp)) | (simp [*]; done)), H', ⟨by have := HJ2.out; have := HJ10.out; have := HK3.out; omega⟩, ⟨by (with_reducible repeat (first | apply Kd.R_alloc | apply Kd.R_drewN | apply Kd.R_drew)); exact HO_5.out⟩, ⟨by repeat (first | (with_reducible first | exact HB.out | apply below_alloc | apply pw_below_drewN | apply below_drew1) | exact HB.out)⟩⟩
                                  · rw [if_neg c32] at H
                                    have c32b0 : ((rd t224 (ji27)) == (wrap64 ((rd t224 x9_3) + (-1)))) = false := beq_eq_false_iff_ne.mpr c32
                                    have c32b1 : ((rd t224 (ji27)) != (wrap64 ((rd t224 x9_3) + (-1)))) = true := bne_iff_ne.mpr c32
                                    exact af_absurd HRT.out H (by repeat (first | exact AF.none | exact AF.false | refine AF.ite ?_ ?_ | refine AF.bind (fun _ => ?_)))
                                · rw [if_neg c31] at H
                                  exact absurd H (by simp)
                              · rw [if_neg c30] at H
                                exact absurd H (by simp)
                            · rw [if_neg c29] at H
                              have c29b0 : ((rd l0 x9_3) == (rd l0 (ji27))) = false := beq_eq_false_iff_ne.mpr c29
                              have c29b1 : ((rd l0 x9_3) != (rd l0 (ji27))) = true := bne_iff_ne.mpr c29
                              have H' := Aside0.mk H
                              clear H
                              have p234 : 0 ≤ (x9_3 : Int) := of_decide_eq_true (by first | (with_reducible assumption) | assumption)
                              have q234 : x9_3 < (l0.length : Int) := of_decide_eq_true (by first | (with_reducible assumption) | assumption)
                              obtain ⟨ad234, e234, hx234_0⟩ := Kd.at_int HR0.out x9_3 p234 q234
                              cases e234
                              replace hx234_0 := (HB.out.cell (World.block_lt_of_cell? w _ hx234_0)).trans hx234_0
                              replace p234 := eq_true p234
                              replace q234 := eq_true q234
                              have p235 : 0 ≤ (x9_3 : Int) := of_decide_eq_true (by first | (with_reducible assumption) | assumption)
                              have q235 : x9_3 < (l0.length : Int) := of_decide_eq_true (by first | (with_reducible assumption) | assumption)
                              obtain ⟨ad235, e235, hx235_0⟩ := Kd.at_int HR0.out x9_3 p235 q235
                              obtain rfl : ad234 = ad235 := (by injection e235)
                              replace hx235_0 := (HB.out.cell (World.block_lt_of_cell? w _ hx235_0)).trans hx235_0
                              replace p235 := eq_true p235
                              replace q235 := eq_true q235
                              have p236 : 0 ≤ ((ji27) : Int) := of_decide_eq_true (by first | (with_reducible assumption) | assumption)
                              have q236 : (ji27) < (l0.length : Int) := of_decide_eq_true (by first | (with_reducible assumption) | assumption)
                              obtain ⟨ad236, e236, hx236_0⟩ := Kd.at_int HR0.out (ji27) p236 q236
                              obtain rfl : ad234 = ad236 := (by injection e236)
                              replace hx236_0 := (HB.out.cell (World.block_lt_of_cell? w _ hx236_0)).trans hx236_0
                              replace p236 := eq_true p236
                              replace q236 := eq_true q236
                              go_wp2
                              repeat (go_quiet (fail); try go_wp2)
                              go_roundg k3
                              case measure => have := HJ2.out; have := HJ10.out; have := HK3.out; omega
                              case rel => exact ⟨(ji27), (by first | rfl | (simp; done) | (simp only [← hji27] <;> (first | rfl | simp)) | (simp [*]; done)), H', ⟨by have := HJ2.out; have := HJ10.out; have := HK3.out; omega⟩, ⟨by (with_reducible repeat (first | apply Kd.R_alloc | apply Kd.R_drewN | apply Kd.R_drew)); exact HO_5.out⟩, ⟨by repeat (first | (with_reducible first | exact HB.out | apply below_alloc | apply pw_below_drewN | apply below_drew1) | exact HB.out)⟩⟩
                          · rw [if_neg c28] at H
                            exact absurd H (by simp)
                        · rw [if_neg c26] at H
                          have c26b0 : ((Int.tmod (rd l0 x9_3) 2) == 1) = false := beq_eq_false_iff_ne.mpr c26
                          have c26b1 : ((Int.tmod (rd l0 x9_3) 2) != 1) = true := bne_iff_ne.mpr c26
                          obtain ⟨ji33, hji33⟩ : ∃ j_ : Int, (wrap64 (x9_3 + 1)) = j_ := ⟨_, rfl⟩
                          replace H : (if 0 ≤ (ji33) then (if (rd l0 x9_3) = (rd l0 (ji33)) then (if (ji33) < (t224.length : Int) then (if x9_3 < (t224.length : Int) then (if (rd t224 (ji33)) = (wrap64 ((rd t224 x9_3) + 1)) then (frisketlaw14_ReorderOnce.l0 k3 l0 t224 ji33) else (some false)) else (none)) else (none)) else (frisketlaw14_ReorderOnce.l0 k3 l0 t224 ji33)) else (none)) = some r := by first | (rw [hji33] at H; exact H) | (simp only [hji33] at H ⊢; exact H)
                          (try rw [hji33] at c23b0)
                          have hji33w : (IntKind.i64.wrap (x9_3 + 1)) = ji33 := (i64_w _).trans hji33
                          by_cases c34 : 0 ≤ (ji33)
                          · rw [if_pos c34] at H
                            have c34b0 : decide (0 ≤ (ji33)) = true := decide_eq_true c34
                            clear c34
                            by_cases c35 : (rd l0 x9_3) = (rd l0 (ji33))
                            · rw [if_pos c35] at H
                              have c35b0 : ((rd l0 x9_3) == (rd l0 (ji33))) = true := beq_iff_eq.mpr c35
                              have c35b1 : ((rd l0 x9_3) != (rd l0 (ji33))) = false := bne_eq_false_iff_eq.mpr c35
                              clear c35
                              by_cases c36 : (ji33) < (t224.length : Int)
                              · rw [if_pos c36] at H
                                have c36b0 : decide ((ji33) < (t224.length : Int)) = true := decide_eq_true c36
                                clear c36
                                by_cases c37 : x9_3 < (t224.length : Int)
                                · rw [if_pos c37] at H
                                  have c37b0 : decide (x9_3 < (t224.length : Int)) = true := decide_eq_true c37
                                  clear c37
                                  by_cases c38 : (rd t224 (ji33)) = (wrap64 ((rd t224 x9_3) + 1))
                                  · rw [if_pos c38] at H
                                    have c38b0 : ((rd t224 (ji33)) == (wrap64 ((rd t224 x9_3) + 1))) = true := beq_iff_eq.mpr c38
                                    have c38b1 : ((rd t224 (ji33)) != (wrap64 ((rd t224 x9_3) + 1))) = false := bne_eq_false_iff_eq.mpr c38
                                    clear c38
                                    have H' := Aside0.mk H
                                    clear H
                                    have p234 : 0 ≤ (x9_3 : Int) := of_decide_eq_true (by first | (with_reducible assumption) | assumption)
                                    have q234 : x9_3 < (l0.length : Int) := of_decide_eq_true (by first | (with_reducible assumption) | assumption)
                                    obtain ⟨ad234, e234, hx234_0⟩ := Kd.at_int HR0.out x9_3 p234 q234
                                    cases e234
                                    replace hx234_0 := (HB.out.cell (World.block_lt_of_cell? w _ hx234_0)).trans hx234_0
                                    replace p234 := eq_true p234
                                    replace q234 := eq_true q234
                                    have p239 : 0 ≤ (x9_3 : Int) := of_decide_eq_true (by first | (with_reducible assumption) | assumption)
                                    have q239 : x9_3 < (l0.length : Int) := of_decide_eq_true (by first | (with_reducible assumption) | assumption)
                                    obtain ⟨ad239, e239, hx239_0⟩ := Kd.at_int HR0.out x9_3 p239 q239
                                    obtain rfl : ad234 = ad239 := (by injection e239)
                                    replace hx239_0 := (HB.out.cell (World.block_lt_of_cell? w _ hx239_0)).trans hx239_0
                                    replace p239 := eq_true p239
                                    replace q239 := eq_true q239
                                    have p240 : 0 ≤ ((ji33) : Int) := of_decide_eq_true (by first | (with_reducible assumption) | assumption)
                                    have q240 : (ji33) < (l0.length : Int) := of_decide_eq_true (by first | (with_reducible assumption) | assumption)
                                    obtain ⟨ad240, e240, hx240_0⟩ := Kd.at_int HR0.out (ji33) p240 q240
                                    obtain rfl : ad234 = ad240 := (by injection e240)
                                    replace hx240_0 := (HB.out.cell (World.block_lt_of_cell? w _ hx240_0)).trans hx240_0
                                    replace p240 := eq_true p240
                                    replace q240 := eq_true q240
                                    have p241 : 0 ≤ ((ji33) : Int) := of_decide_eq_true (by first | (with_reducible assumption) | assumption)
                                    have q241 : (ji33) < (t224.length : Int) := of_decide_eq_true (by first | (with_reducible assumption) | assumption)
                                    obtain ⟨ad241, e241, hx241_0⟩ := Kd.at_int (Kd.R_reads' HO_5.out).2.2 (ji33) p241 q241
                                    cases e241
                                    replace p241 := eq_true p241
                                    replace q241 := eq_true q241
                                    have p242 : 0 ≤ (x9_3 : Int) := of_decide_eq_true (by first | (with_reducible assumption) | assumption)
                                    have q242 : x9_3 < (t224.length : Int) := of_decide_eq_true (by first | (with_reducible assumption) | assumption)
                                    obtain ⟨ad242, e242, hx242_0⟩ := Kd.at_int (Kd.R_reads' HO_5.out).2.2 x9_3 p242 q242
                                    obtain rfl : ad241 = ad242 := (by injection e242)
                                    replace p242 := eq_true p242
                                    replace q242 := eq_true q242
                                    go_wp2
                                    repeat (go_quiet (fail); try go_wp2)
                                    go_roundg k3
                                    case measure => have := HJ2.out; have := HJ10.out; have := HK3.out; omega
                                    case rel => exact ⟨(ji33), (by first | rfl | (simp; done) | (simp only [← hji33] <;> (first | rfl | simp)) | (simp [*]; done)), H', ⟨by have := HJ2.out; have := HJ10.out; have := HK3.out; omega⟩, ⟨by (with_reducible repeat (first | apply Kd.R_alloc | apply Kd.R_drewN | apply Kd.R_drew)); exact HO_5.out⟩, ⟨by repeat (first | (with_reducible first | exact HB.out | apply below_alloc | apply pw_below_drewN | apply below_drew1) | exact HB.out)⟩⟩
                                  · rw [if_neg c38] at H
                                    have c38b0 : ((rd t224 (ji33)) == (wrap64 ((rd t224 x9_3) + 1))) = false := beq_eq_false_iff_ne.mpr c38
                                    have c38b1 : ((rd t224 (ji33)) != (wrap64 ((rd t224 x9_3) + 1))) = true := bne_iff_ne.mpr c38
                                    exact af_absurd HRT.out H (by repeat (first | exact AF.none | exact AF.false | refine AF.ite ?_ ?_ | refine AF.bind (fun _ => ?_)))
                                · rw [if_neg c37] at H
                                  exact absurd H (by simp)
                              · rw [if_neg c36] at H
                                exact absurd H (by simp)
                            · rw [if_neg c35] at H
                              have c35b0 : ((rd l0 x9_3) == (rd l0 (ji33))) = false := beq_eq_false_iff_ne.mpr c35
                              have c35b1 : ((rd l0 x9_3) != (rd l0 (ji33))) = true := bne_iff_ne.mpr c35
                              have H' := Aside0.mk H
                              clear H
                              have p234 : 0 ≤ (x9_3 : Int) := of_decide_eq_true (by first | (with_reducible assumption) | assumption)
                              have q234 : x9_3 < (l0.length : Int) := of_decide_eq_true (by first | (with_reducible assumption) | assumption)
                              obtain ⟨ad234, e234, hx234_0⟩ := Kd.at_int HR0.out x9_3 p234 q234
                              cases e234
                              replace hx234_0 := (HB.out.cell (World.block_lt_of_cell? w _ hx234_0)).trans hx234_0
                              replace p234 := eq_true p234
                              replace q234 := eq_true q234
                              have p239 : 0 ≤ (x9_3 : Int) := of_decide_eq_true (by first | (with_reducible assumption) | assumption)
                              have q239 : x9_3 < (l0.length : Int) := of_decide_eq_true (by first | (with_reducible assumption) | assumption)
                              obtain ⟨ad239, e239, hx239_0⟩ := Kd.at_int HR0.out x9_3 p239 q239
                              obtain rfl : ad234 = ad239 := (by injection e239)
                              replace hx239_0 := (HB.out.cell (World.block_lt_of_cell? w _ hx239_0)).trans hx239_0
                              replace p239 := eq_true p239
                              replace q239 := eq_true q239
                              have p240 : 0 ≤ ((ji33) : Int) := of_decide_eq_true (by first | (with_reducible assumption) | assumption)
                              have q240 : (ji33) < (l0.length : Int) := of_decide_eq_true (by first | (with_reducible assumption) | assumption)
                              obtain ⟨ad240, e240, hx240_0⟩ := Kd.at_int HR0.out (ji33) p240 q240
                              obtain rfl : ad234 = ad240 := (by injection e240)
                              replace hx240_0 := (HB.out.cell (World.block_lt_of_cell? w _ hx240_0)).trans hx240_0
                              replace p240 := eq_true p240
                              replace q240 := eq_true q240
                              go_wp2
                              repeat (go_quiet (fail); try go_wp2)
                              go_roundg k3
                              case measure => have := HJ2.out; have := HJ10.out; have := HK3.out; omega
                              case rel => exact ⟨(ji33), (by first | rfl | (simp; done) | (simp only [← hji33] <;> (first | rfl | simp)) | (simp [*]; done)), H', ⟨by have := HJ2.out; have := HJ10.out; have := HK3.out; omega⟩, ⟨by (with_reducible repeat (first | apply Kd.R_alloc | apply Kd.R_drewN | apply Kd.R_drew)); exact HO_5.out⟩, ⟨by repeat (first | (with_reducible first | exact HB.out | apply below_alloc | apply pw_below_drewN | apply below_drew1) | exact HB.out)⟩⟩
                          · rw [if_neg c34] at H
                            exact absurd H (by simp)
                      · rw [if_neg c25] at H
                        exact absurd H (by simp)
                    · rw [if_neg c24] at H
                      exact absurd H (by simp)
                  · rw [if_neg c23] at H
                    have c23b0 : decide ((wrap64 (x9_3 + 1)) < (l0.length : Int)) = false := decide_eq_false c23
                    clear c23
                    replace H := Option.bind_eq_some_iff.mp H
                    obtain ⟨t233, A390, H⟩ := H
                    replace H : (some t233) = some r := H
                    have A39 := Aside0.mk A390
                    clear A390
                    obtain rfl := Option.some.inj H
                    go_wp2_with (first | (go_at_call 8; (with_reducible refine (frisketlaw14_alive.calls k3  t233 _ A39.out).mono ?_); rintro e w40 ⟨rfl, hb⟩; have n0_ := Aside0.mk (Kd.R_below (by (with_reducible repeat (first | apply Kd.R_alloc | apply Kd.R_drewN | apply Kd.R_drew)); exact HO_5.out) hb); have n1_ := Aside0.mk (below_step (by repeat (first | (with_reducible first | exact HB.out | apply below_alloc | apply pw_below_drewN | apply below_drew1) | exact HB.out)) hb); clear HO_5; clear HB; have HO_5 := n0_; have HB := n1_; clear n0_ n1_; (try clear hb); (try clear hb2); (try clear hk); (try clear hi)))
                    repeat (go_quiet (first | (go_at_call 8; (with_reducible refine (frisketlaw14_alive.calls k3  t233 _ A39.out).mono ?_); rintro e w40 ⟨rfl, hb⟩; have n0_ := Aside0.mk (Kd.R_below (by (with_reducible repeat (first | apply Kd.R_alloc | apply Kd.R_drewN | apply Kd.R_drew)); exact HO_5.out) hb); have n1_ := Aside0.mk (below_step (by repeat (first | (with_reducible first | exact HB.out | apply below_alloc | apply pw_below_drewN | apply below_drew1) | exact HB.out)) hb); clear HO_5; clear HB; have HO_5 := n0_; have HB := n1_; clear n0_ n1_; (try clear hb); (try clear hb2); (try clear hk); (try clear hi))); try go_wp2_with (first | (go_at_call 8; (with_reducible refine (frisketlaw14_alive.calls k3  t233 _ A39.out).mono ?_); rintro e w40 ⟨rfl, hb⟩; have n0_ := Aside0.mk (Kd.R_below (by (with_reducible repeat (first | apply Kd.R_alloc | apply Kd.R_drewN | apply Kd.R_drew)); exact HO_5.out) hb); have n1_ := Aside0.mk (below_step (by repeat (first | (with_reducible first | exact HB.out | apply below_alloc | apply pw_below_drewN | apply below_drew1) | exact HB.out)) hb); clear HO_5; clear HB; have HO_5 := n0_; have HB := n1_; clear n0_ n1_; (try clear hb); (try clear hb2); (try clear hk); (try clear hi))))
                    go_ret
                    exact ⟨by first | rfl | (simp [errW_none, errW_some] <;> rfl) | (simp [*, errW_none, errW_some] <;> rfl), by repeat (first | (with_reducible first | exact HB.out | apply below_alloc | apply pw_below_drewN | apply below_drew1) | exact HB.out)⟩

end Go.Proofs.Ytbkgggcpkiddmaa.P
