/- Written by wip/tools/gprint.py of this repo over the translation: Lean functions that answer as the Go functions named below do, and the proof of it; the conditions stand in each theorem. -/
import Derived.Test.YtbkgggcpkiddmaaP0
import Derived.Test.YtbkgggcpkiddmaaP4
import Derived.Test.YtbkgggcpkiddmaaP8
import Derived.Test.YtbkgggcpkiddmaaP9
import Derived.Test.YtbkgggcpkiddmaaP11
import Derived.Test.YtbkgggcpkiddmaaP13
import Derived.Test.YtbkgggcpkiddmaaP14
import Derived.Test.YtbkgggcpkiddmaaP15
import Derived.Test.YtbkgggcpkiddmaaHOrder
namespace Go.Proofs.Ytbkgggcpkiddmaa.P
open Go.RowKit Go.Proofs.YtbkgggcpkiddmaaW.PrintWords Go.Proofs.YtbkgggcpkiddmaaW.PrintLast Go.Proofs.YtbkgggcpkiddmaaW.PrintMore
attribute [local go_sem] max2_int min2_int max_two min_two max_three min_three max_four min_four   -- for this text's walks alone
set_option linter.unusedVariables false
set_option linter.unusedSimpArgs false

/-! ### frisketlaw14_ReorderTells: function 3 -/
def frisketlaw14_ReorderTells.j0 : Nat → List Int → List Int → Bool → Bool → Option (Bool)
  | 0, _, _, _, _ => none
  | k + 1, x0, x1, x2, x27 => if x27 = true then ((frisketlaw14_alive.f k).bind fun t183 => (some t183)) else ((some (([] : List Int) : List Int)).bind fun y184 => (if y184.length + x0.length < 17592186044416 then ((reorder_Order.f x0).bind fun bt190 => ((frisketref14_Order.f k x0).bind fun bt194 => ((reorder_Apply.f k x0 x2).bind fun bt198 => ((frisketref14_Apply.f k x0 x2).bind fun bt202 => ((reorder_Back.f k x1).bind fun bt206 => ((frisketref14_Back.f k x1).bind fun bt210 => ((frisketlaw14_alive.f k).bind fun t214 => (if t214 = true then ((frisketref01_Ints.f k bt190.1 bt194.1).bind fun t215 => (if t215 = true then (if bt190.2 = bt194.2 then ((frisketref01_Ints.f k bt198.1 bt202.1).bind fun t216 => (if t216 = true then (if bt198.2 = bt202.2 then ((frisketref01_Ints.f k bt206.1 bt210.1).bind fun t217 => (if t217 = true then (if bt206.2 = bt210.2 then ((frisketref01_Ints.f k x0 (y184 ++ x0)).bind fun t218 => (some t218)) else (some false)) else (some false))) else (some false)) else (some false))) else (some false)) else (some false))) else (some false))))))))) else (none)))
def frisketlaw14_ReorderTells.f (k : Nat) (l0 : List Int) (l1 : List Int) (a2 : Bool) : Option (Bool) := if (l0.length : Int) > 200 then (frisketlaw14_ReorderTells.j0 k l0 l1 a2 true) else (frisketlaw14_ReorderTells.j0 k l0 l1 a2 (decide ((l1.length : Int) > 200)))
theorem frisketlaw14_ReorderTells.mono_l : ∀ k, (∀ y0 y1 y2 y3, LeO (frisketlaw14_ReorderTells.j0 k y0 y1 y2 y3) (frisketlaw14_ReorderTells.j0 (k + 1) y0 y1 y2 y3))
  | 0 => fun _ _ _ _ r h => by simp [frisketlaw14_ReorderTells.j0] at h
  | k + 1 => by
    have ih0 := frisketlaw14_ReorderTells.mono_l k
    · intro y0 y1 y2 y3
      unfold frisketlaw14_ReorderTells.j0
      repeat' first
      | (with_reducible exact ih0 _ _ _ _)
      | (with_reducible exact frisketlaw14_alive.mono _)
      | (with_reducible exact frisketref01_Ints.mono _ _ _)
      | (with_reducible exact frisketref14_Apply.mono _ _ _)
      | (with_reducible exact frisketref14_Back.mono _ _)
      | (with_reducible exact frisketref14_Order.mono _ _)
      | (with_reducible exact reorder_Apply.mono _ _ _)
      | (with_reducible exact reorder_Back.mono _ _)
      | (with_reducible exact LeO.refl _)
      | (with_reducible exact LeO.none _)
      | (with_reducible refine LeO.ite ?_ ?_)
      | (with_reducible refine LeO.bind ?_ (fun _ => ?_))
      | exact ih0 _ _ _ _
      | exact frisketlaw14_alive.mono _
      | exact frisketref01_Ints.mono _ _ _
      | exact frisketref14_Apply.mono _ _ _
      | exact frisketref14_Back.mono _ _
      | exact frisketref14_Order.mono _ _
      | exact reorder_Apply.mono _ _ _
      | exact reorder_Back.mono _ _
      | exact LeO.none _
      | refine LeO.ite ?_ ?_
      | refine LeO.bind ?_ (fun _ => ?_)
theorem frisketlaw14_ReorderTells.mono : ∀ a0 a1 a2 k, LeO (frisketlaw14_ReorderTells.f k a0 a1 a2) (frisketlaw14_ReorderTells.f (k + 1) a0 a1 a2) := by
  intro a0 a1 a2 k
  have ih0 := frisketlaw14_ReorderTells.mono_l k
  unfold frisketlaw14_ReorderTells.f
  repeat' first
      | (with_reducible exact ih0 _ _ _ _)
      | (with_reducible exact frisketlaw14_alive.mono _)
      | (with_reducible exact frisketref01_Ints.mono _ _ _)
      | (with_reducible exact frisketref14_Apply.mono _ _ _)
      | (with_reducible exact frisketref14_Back.mono _ _)
      | (with_reducible exact frisketref14_Order.mono _ _)
      | (with_reducible exact reorder_Apply.mono _ _ _)
      | (with_reducible exact reorder_Back.mono _ _)
      | (with_reducible exact LeO.refl _)
      | (with_reducible exact LeO.none _)
      | (with_reducible refine LeO.ite ?_ ?_)
      | (with_reducible refine LeO.bind ?_ (fun _ => ?_))
      | exact ih0 _ _ _ _
      | exact frisketlaw14_alive.mono _
      | exact frisketref01_Ints.mono _ _ _
      | exact frisketref14_Apply.mono _ _ _
      | exact frisketref14_Back.mono _ _
      | exact frisketref14_Order.mono _ _
      | exact reorder_Apply.mono _ _ _
      | exact reorder_Back.mono _ _
      | exact LeO.none _
      | refine LeO.ite ?_ ?_
      | refine LeO.bind ?_ (fun _ => ?_)
set_option maxHeartbeats 8000000 in
set_option maxRecDepth 100000 in
theorem frisketlaw14_ReorderTells.calls (k : Nat) (A0 : Option Addr) (c0 : Nat) (l0 : List Int) (A1 : Option Addr) (c1 : Nat) (l1 : List Int) (a2 : Bool) (r : Bool) (w : World) (hr0 : Kd.C (Kd.int .i64) w A0 l0.length l0) (hc0 : l0.length ≤ c0) (hr1 : Kd.C (Kd.int .i64) w A1 l1.length l1) (hc1 : l1.length ≤ c1) (hrt : r = true) (h : frisketlaw14_ReorderTells.f k l0 l1 a2 = some r) :
    Calls Try.prog 3 #[.slice A0 l0.length c0, .slice A1 l1.length c1, .bool a2] w fun e w' => e = .returned (.bool r) ∧ Below w.heap.size w w' := by
  have HR0 := Aside0.mk hr0
  have HC0 := Aside0.mk hc0
  clear hr0 hc0
  have HR1 := Aside0.mk hr1
  have HC1 := Aside0.mk hc1
  clear hr1 hc1
  have HB := Aside0.mk (Below.refl w.heap.size w)
  have HRT := Aside0.mk hrt
  clear hrt
  have H : (if (l0.length : Int) > 200 then (frisketlaw14_ReorderTells.j0 k l0 l1 a2 true) else (frisketlaw14_ReorderTells.j0 k l0 l1 a2 (decide ((l1.length : Int) > 200)))) = some r := h
  clear h
  have HC4 := Aside0.mk H
  clear H
  go_enter Try.func3, Try.ntmps3
  go_upto_region 1 with (fail)
  go_cut [27] (fun v27 wc => ∃ (kq : Nat) (x27_3 : Bool), v27 = .bool x27_3 ∧ Aside0 (frisketlaw14_ReorderTells.j0 kq l0 l1 a2 x27_3 = some r) ∧ Aside0 (kq ≤ k) ∧ Aside0 (Below w.heap.size w wc))
  case first =>
    have H := HC4.out
    clear HC4
    by_cases c5 : (l0.length : Int) > 200
    · rw [if_pos c5] at H
      have c5b0 : decide (200 < (l0.length : Int)) = true := decide_eq_true c5
      have c5b1 : decide (200 < l0.length) = true := decide_eq_true (by omega)
      clear c5
      (first | rw [c5b0] | (simp only [i64_w, i32_w]; rw [c5b0]) | skip)
      have H' := Aside0.mk H
      clear H
      go_wp2
      go_meet
      case rel => exact ⟨_, (true), (by first | rfl | (simp; done) | (simp [*]; done)), H', ⟨by first | omega | exact Nat.le_refl _⟩, ⟨by repeat (first | (with_reducible first | exact HB.out | apply below_alloc | apply pw_below_drewN | apply below_drew1) | exact HB.out)⟩⟩
    · rw [if_neg c5] at H
      have c5b0 : decide (200 < (l0.length : Int)) = false := decide_eq_false c5
      have c5b1 : decide (200 < l0.length) = false := decide_eq_false (by omega)
      clear c5
      (first | rw [c5b0] | (simp only [i64_w, i32_w]; rw [c5b0]) | skip)
      have H' := Aside0.mk H
      clear H
      go_wp2
      go_meet
      case rel => exact ⟨_, (decide ((l1.length : Int) > 200)), (by first | rfl | (simp; done) | (simp [*]; done)), H', ⟨by first | omega | exact Nat.le_refl _⟩, ⟨by repeat (first | (with_reducible first | exact HB.out | apply below_alloc | apply pw_below_drewN | apply below_drew1) | exact HB.out)⟩⟩
  case rest =>
    clear HC4
    try clear c1
    try clear p2
    try clear c3
    try clear c5
    try clear c5b0
    try clear c5b1
    obtain ⟨kq, x27_3, rfl, HA, HJ3, HB⟩ := hcut
    cases kq with
    | zero => exact absurd HA.out (by simp [frisketlaw14_ReorderTells.j0])
    | succ kj3 =>
      have H := HA.out
      clear HA
      simp only [frisketlaw14_ReorderTells.j0] at H
      by_cases c6 : x27_3 = true
      · subst c6
        have H1 : ((frisketlaw14_alive.f kj3).bind fun t183 => (some t183)) = some r := by rw [if_pos rfl] at H; exact H
        clear H
        have H := H1
        clear H1
        replace H := Option.bind_eq_some_iff.mp H
        obtain ⟨t183, A70, H⟩ := H
        replace H : (some t183) = some r := H
        have A7 := Aside0.mk A70
        clear A70
        obtain rfl := Option.some.inj H
        go_wp2_with (first | ((with_reducible refine gate_callee (f := 8) rfl ?_); refine goesL_ (some 28) rfl rfl Try.func8 (by kernel_rfl) rfl #[] rfl (by (try simp only [List.map_toArray, List.map_cons, List.map_nil]); first | done | rfl | (simp only [List.length_drop, List.length_take]; rfl)) ?_; (with_reducible refine (frisketlaw14_alive.calls kj3  t183 _ A7.out).mono ?_); rintro e w8 ⟨rfl, hb⟩; refine ⟨_, rfl, ?_⟩; have n0_ := Aside0.mk (below_step (by repeat (first | (with_reducible first | exact HB.out | apply below_alloc | apply pw_below_drewN | apply below_drew1) | exact HB.out)) hb); clear HB; have HB := n0_; clear n0_; (try clear hb); (try clear hb2); (try clear hk); (try clear hi)))
        go_ret
        exact ⟨by first | rfl | (simp [errW_none, errW_some] <;> rfl) | (simp [*, errW_none, errW_some] <;> rfl), by repeat (first | (with_reducible first | exact HB.out | apply below_alloc | apply pw_below_drewN | apply below_drew1) | exact HB.out)⟩
      · replace c6 := Bool.eq_false_iff.mpr c6
        subst c6
        have H1 : ((some (([] : List Int) : List Int)).bind fun y184 => (if y184.length + l0.length < 17592186044416 then ((reorder_Order.f l0).bind fun bt190 => ((frisketref14_Order.f kj3 l0).bind fun bt194 => ((reorder_Apply.f kj3 l0 a2).bind fun bt198 => ((frisketref14_Apply.f kj3 l0 a2).bind fun bt202 => ((reorder_Back.f kj3 l1).bind fun bt206 => ((frisketref14_Back.f kj3 l1).bind fun bt210 => ((frisketlaw14_alive.f kj3).bind fun t214 => (if t214 = true then ((frisketref01_Ints.f kj3 bt190.1 bt194.1).bind fun t215 => (if t215 = true then (if bt190.2 = bt194.2 then ((frisketref01_Ints.f kj3 bt198.1 bt202.1).bind fun t216 => (if t216 = true then (if bt198.2 = bt202.2 then ((frisketref01_Ints.f kj3 bt206.1 bt210.1).bind fun t217 => (if t217 = true then (if bt206.2 = bt210.2 then ((frisketref01_Ints.f kj3 l0 (y184 ++ l0)).bind fun t218 => (some t218)) else (some false)) else (some false))) else (some false)) else (some false))) else (some false)) else (some false))) else (some false))))))))) else (none))) = some r := by rw [if_neg (show ¬ (false = true) by decide)] at H; exact H
        clear H
        have H := H1
        clear H1
        obtain ⟨y184, hy184⟩ : ∃ y_ : List Int, y_ = (([] : List Int)) := ⟨_, rfl⟩
        replace H : (if y184.length + l0.length < 17592186044416 then ((reorder_Order.f l0).bind fun bt190 => ((frisketref14_Order.f kj3 l0).bind fun bt194 => ((reorder_Apply.f kj3 l0 a2).bind fun bt198 => ((frisketref14_Apply.f kj3 l0 a2).bind fun bt202 => ((reorder_Back.f kj3 l1).bind fun bt206 => ((frisketref14_Back.f kj3 l1).bind fun bt210 => ((frisketlaw14_alive.f kj3).bind fun t214 => (if t214 = true then ((frisketref01_Ints.f kj3 bt190.1 bt194.1).bind fun t215 => (if t215 = true then (if bt190.2 = bt194.2 then ((frisketref01_Ints.f kj3 bt198.1 bt202.1).bind fun t216 => (if t216 = true then (if bt198.2 = bt202.2 then ((frisketref01_Ints.f kj3 bt206.1 bt210.1).bind fun t217 => (if t217 = true then (if bt206.2 = bt210.2 then ((frisketref01_Ints.f kj3 l0 (y184 ++ l0)).bind fun t218 => (some t218)) else (some false)) else (some false))) else (some false)) else (some false))) else (some false)) else (some false))) else (some false))))))))) else (none)) = some r := by first | (rw [hy184]; with_reducible exact H) | (have H2_ := (Option.bind_some _ _).symm.trans H; rw [hy184]; with_reducible exact H2_) | (have H2_ := (Option.bind_some _ _).symm.trans H; with_reducible exact H2_) | with_reducible exact H | (rw [hy184]; exact H) | exact H
        have Ny184 := Aside0.mk hy184
        clear hy184
        by_cases c9 : y184.length + l0.length < 17592186044416
        · rw [if_pos c9] at H
          have LMc9 := Aside0.mk c9
          clear c9
          obtain ⟨y187, hy187⟩ : ∃ y_ : List Int, y_ = (y184 ++ l0) := ⟨_, rfl⟩
          replace H : ((reorder_Order.f l0).bind fun bt190 => ((frisketref14_Order.f kj3 l0).bind fun bt194 => ((reorder_Apply.f kj3 l0 a2).bind fun bt198 => ((frisketref14_Apply.f kj3 l0 a2).bind fun bt202 => ((reorder_Back.f kj3 l1).bind fun bt206 => ((frisketref14_Back.f kj3 l1).bind fun bt210 => ((frisketlaw14_alive.f kj3).bind fun t214 => (if t214 = true then ((frisketref01_Ints.f kj3 bt190.1 bt194.1).bind fun t215 => (if t215 = true then (if bt190.2 = bt194.2 then ((frisketref01_Ints.f kj3 bt198.1 bt202.1).bind fun t216 => (if t216 = true then (if bt198.2 = bt202.2 then ((frisketref01_Ints.f kj3 bt206.1 bt210.1).bind fun t217 => (if t217 = true then (if bt206.2 = bt210.2 then ((frisketref01_Ints.f kj3 l0 y187).bind fun t218 => (some t218)) else (some false)) else (some false))) else (some false)) else (some false))) else (some false)) else (some false))) else (some false))))))))) = some r := by first | (rw [hy187]; with_reducible exact H) | (have H2_ := (Option.bind_some _ _).symm.trans H; rw [hy187]; with_reducible exact H2_) | (have H2_ := (Option.bind_some _ _).symm.trans H; with_reducible exact H2_) | with_reducible exact H | (rw [hy187]; exact H) | exact H
          have Ny187 := Aside0.mk hy187
          clear hy187
          replace H := Option.bind_eq_some_iff.mp H
          obtain ⟨⟨t190, t191⟩, A100, H⟩ := H
          replace H : ((frisketref14_Order.f kj3 l0).bind fun bt194 => ((reorder_Apply.f kj3 l0 a2).bind fun bt198 => ((frisketref14_Apply.f kj3 l0 a2).bind fun bt202 => ((reorder_Back.f kj3 l1).bind fun bt206 => ((frisketref14_Back.f kj3 l1).bind fun bt210 => ((frisketlaw14_alive.f kj3).bind fun t214 => (if t214 = true then ((frisketref01_Ints.f kj3 t190 bt194.1).bind fun t215 => (if t215 = true then (if t191 = bt194.2 then ((frisketref01_Ints.f kj3 bt198.1 bt202.1).bind fun t216 => (if t216 = true then (if bt198.2 = bt202.2 then ((frisketref01_Ints.f kj3 bt206.1 bt210.1).bind fun t217 => (if t217 = true then (if bt206.2 = bt210.2 then ((frisketref01_Ints.f kj3 l0 y187).bind fun t218 => (some t218)) else (some false)) else (some false))) else (some false)) else (some false))) else (some false)) else (some false))) else (some false)))))))) = some r := H
          have A10 := Aside0.mk A100
          clear A100
          replace H := Option.bind_eq_some_iff.mp H
          obtain ⟨⟨t194, t195⟩, A110, H⟩ := H
          replace H : ((reorder_Apply.f kj3 l0 a2).bind fun bt198 => ((frisketref14_Apply.f kj3 l0 a2).bind fun bt202 => ((reorder_Back.f kj3 l1).bind fun bt206 => ((frisketref14_Back.f kj3 l1).bind fun bt210 => ((frisketlaw14_alive.f kj3).bind fun t214 => (if t214 = true then ((frisketref01_Ints.f kj3 t190 t194).bind fun t215 => (if t215 = true then (if t191 = t195 then ((frisketref01_Ints.f kj3 bt198.1 bt202.1).bind fun t216 => (if t216 = true then (if bt198.2 = bt202.2 then ((frisketref01_Ints.f kj3 bt206.1 bt210.1).bind fun t217 => (if t217 = true then (if bt206.2 = bt210.2 then ((frisketref01_Ints.f kj3 l0 y187).bind fun t218 => (some t218)) else (some false)) else (some false))) else (some false)) else (some false))) else (some false)) else (some false))) else (some false))))))) = some r := H
          have A11 := Aside0.mk A110
          clear A110
          replace H := Option.bind_eq_some_iff.mp H
          obtain ⟨⟨t198, t199⟩, A120, H⟩ := H
          replace H : ((frisketref14_Apply.f kj3 l0 a2).bind fun bt202 => ((reorder_Back.f kj3 l1).bind fun bt206 => ((frisketref14_Back.f kj3 l1).bind fun bt210 => ((frisketlaw14_alive.f kj3).bind fun t214 => (if t214 = true then ((frisketref01_Ints.f kj3 t190 t194).bind fun t215 => (if t215 = true then (if t191 = t195 then ((frisketref01_Ints.f kj3 t198 bt202.1).bind fun t216 => (if t216 = true then (if t199 = bt202.2 then ((frisketref01_Ints.f kj3 bt206.1 bt210.1).bind fun t217 => (if t217 = true then (if bt206.2 = bt210.2 then ((frisketref01_Ints.f kj3 l0 y187).bind fun t218 => (some t218)) else (some false)) else (some false))) else (some false)) else (some false))) else (some false)) else (some false))) else (some false)))))) = some r := H
          have A12 := Aside0.mk A120
          clear A120
          replace H := Option.bind_eq_some_iff.mp H
          obtain ⟨⟨t202, t203⟩, A130, H⟩ := H
          replace H : ((reorder_Back.f kj3 l1).bind fun bt206 => ((frisketref14_Back.f kj3 l1).bind fun bt210 => ((frisketlaw14_alive.f kj3).bind fun t214 => (if t214 = true then ((frisketref01_Ints.f kj3 t190 t194).bind fun t215 => (if t215 = true then (if t191 = t195 then ((frisketref01_Ints.f kj3 t198 t202).bind fun t216 => (if t216 = true then (if t199 = t203 then ((frisketref01_Ints.f kj3 bt206.1 bt210.1).bind fun t217 => (if t217 = true then (if bt206.2 = bt210.2 then ((frisketref01_Ints.f kj3 l0 y187).bind fun t218 => (some t218)) else (some false)) else (some false))) else (some false)) else (some false))) else (some false)) else (some false))) else (some false))))) = some r := H
          have A13 := Aside0.mk A130
          clear A130
          replace H := Option.bind_eq_some_iff.mp H
          obtain ⟨⟨t206, t207⟩, A140, H⟩ := H
          replace H : ((frisketref14_Back.f kj3 l1).bind fun bt210 => ((frisketlaw14_alive.f kj3).bind fun t214 => (if t214 = true then ((frisketref01_Ints.f kj3 t190 t194).bind fun t215 => (if t215 = true then (if t191 = t195 then ((frisketref01_Ints.f kj3 t198 t202).bind fun t216 => (if t216 = true then (if t199 = t203 then ((frisketref01_Ints.f kj3 t206 bt210.1).bind fun t217 => (if t217 = true then (if t207 = bt210.2 then ((frisketref01_Ints.f kj3 l0 y187).bind fun t218 => (some t218)) else (some false)) else (some false))) else (some false)) else (some false))) else (some false)) else (some false))) else (some false)))) = some r := H
          have A14 := Aside0.mk A140
          clear A140
          replace H := Option.bind_eq_some_iff.mp H
          obtain ⟨⟨t210, t211⟩, A150, H⟩ := H
          replace H : ((frisketlaw14_alive.f kj3).bind fun t214 => (if t214 = true then ((frisketref01_Ints.f kj3 t190 t194).bind fun t215 => (if t215 = true then (if t191 = t195 then ((frisketref01_Ints.f kj3 t198 t202).bind fun t216 => (if t216 = true then (if t199 = t203 then ((frisketref01_Ints.f kj3 t206 t210).bind fun t217 => (if t217 = true then (if t207 = t211 then ((frisketref01_Ints.f kj3 l0 y187).bind fun t218 => (some t218)) else (some false)) else (some false))) else (some false)) else (some false))) else (some false)) else (some false))) else (some false))) = some r := H
          have A15 := Aside0.mk A150
          clear A150
          replace H := Option.bind_eq_some_iff.mp H
          obtain ⟨t214, A160, H⟩ := H
          replace H : (if t214 = true then ((frisketref01_Ints.f kj3 t190 t194).bind fun t215 => (if t215 = true then (if t191 = t195 then ((frisketref01_Ints.f kj3 t198 t202).bind fun t216 => (if t216 = true then (if t199 = t203 then ((frisketref01_Ints.f kj3 t206 t210).bind fun t217 => (if t217 = true then (if t207 = t211 then ((frisketref01_Ints.f kj3 l0 y187).bind fun t218 => (some t218)) else (some false)) else (some false))) else (some false)) else (some false))) else (some false)) else (some false))) else (some false)) = some r := H
          have A16 := Aside0.mk A160
          clear A160
          by_cases c17 : t214 = true
          · subst c17
            have H1 : ((frisketref01_Ints.f kj3 t190 t194).bind fun t215 => (if t215 = true then (if t191 = t195 then ((frisketref01_Ints.f kj3 t198 t202).bind fun t216 => (if t216 = true then (if t199 = t203 then ((frisketref01_Ints.f kj3 t206 t210).bind fun t217 => (if t217 = true then (if t207 = t211 then ((frisketref01_Ints.f kj3 l0 y187).bind fun t218 => (some t218)) else (some false)) else (some false))) else (some false)) else (some false))) else (some false)) else (some false))) = some r := by rw [if_pos rfl] at H; exact H
            clear H
            have H := H1
            clear H1
            replace H := Option.bind_eq_some_iff.mp H
            obtain ⟨t215, A180, H⟩ := H
            replace H : (if t215 = true then (if t191 = t195 then ((frisketref01_Ints.f kj3 t198 t202).bind fun t216 => (if t216 = true then (if t199 = t203 then ((frisketref01_Ints.f kj3 t206 t210).bind fun t217 => (if t217 = true then (if t207 = t211 then ((frisketref01_Ints.f kj3 l0 y187).bind fun t218 => (some t218)) else (some false)) else (some false))) else (some false)) else (some false))) else (some false)) else (some false)) = some r := H
            have A18 := Aside0.mk A180
            clear A180
            by_cases c19 : t215 = true
            · subst c19
              have H1 : (if t191 = t195 then ((frisketref01_Ints.f kj3 t198 t202).bind fun t216 => (if t216 = true then (if t199 = t203 then ((frisketref01_Ints.f kj3 t206 t210).bind fun t217 => (if t217 = true then (if t207 = t211 then ((frisketref01_Ints.f kj3 l0 y187).bind fun t218 => (some t218)) else (some false)) else (some false))) else (some false)) else (some false))) else (some false)) = some r := by rw [if_pos rfl] at H; exact H
              clear H
              have H := H1
              clear H1
              by_cases c20 : t191 = t195
              · rw [if_pos c20] at H
                have c20b0 : (t191 == t195) = true := beq_iff_eq.mpr c20
                have c20b1 : (t191 != t195) = false := bne_eq_false_iff_eq.mpr c20
                clear c20
                replace H := Option.bind_eq_some_iff.mp H
                obtain ⟨t216, A210, H⟩ := H
                replace H : (if t216 = true then (if t199 = t203 then ((frisketref01_Ints.f kj3 t206 t210).bind fun t217 => (if t217 = true then (if t207 = t211 then ((frisketref01_Ints.f kj3 l0 y187).bind fun t218 => (some t218)) else (some false)) else (some false))) else (some false)) else (some false)) = some r := H
                have A21 := Aside0.mk A210
                clear A210
                by_cases c22 : t216 = true
                · subst c22
                  have H1 : (if t199 = t203 then ((frisketref01_Ints.f kj3 t206 t210).bind fun t217 => (if t217 = true then (if t207 = t211 then ((frisketref01_Ints.f kj3 l0 y187).bind fun t218 => (some t218)) else (some false)) else (some false))) else (some false)) = some r := by rw [if_pos rfl] at H; exact H
                  clear H
                  have H := H1
                  clear H1
                  by_cases c23 : t199 = t203
                  · rw [if_pos c23] at H
                    have c23b0 : (t199 == t203) = true := beq_iff_eq.mpr c23
                    have c23b1 : (t199 != t203) = false := bne_eq_false_iff_eq.mpr c23
                    clear c23
                    replace H := Option.bind_eq_some_iff.mp H
                    obtain ⟨t217, A240, H⟩ := H
                    replace H : (if t217 = true then (if t207 = t211 then ((frisketref01_Ints.f kj3 l0 y187).bind fun t218 => (some t218)) else (some false)) else (some false)) = some r := H
                    have A24 := Aside0.mk A240
                    clear A240
                    by_cases c25 : t217 = true
                    · subst c25
                      have H1 : (if t207 = t211 then ((frisketref01_Ints.f kj3 l0 y187).bind fun t218 => (some t218)) else (some false)) = some r := by rw [if_pos rfl] at H; exact H
                      clear H
                      have H := H1
                      clear H1
                      by_cases c26 : t207 = t211
                      · rw [if_pos c26] at H
                        have c26b0 : (t207 == t211) = true := beq_iff_eq.mpr c26
                        have c26b1 : (t207 != t211) = false := bne_eq_false_iff_eq.mpr c26
                        clear c26
                        replace H := Option.bind_eq_some_iff.mp H
                        obtain ⟨t218, A270, H⟩ := H
                        replace H : (some t218) = some r := H
                        have A27 := Aside0.mk A270
                        clear A270
                        obtain rfl := Option.some.inj H
                        go_wp2_with (first | ((with_reducible refine gate_dst (N := 29) rfl ?_); (try (refine gate_guard (by rfl) ?_; dsimp only)); refine Kd.R_lit (Kd.int .i64) _ 3 ?hg (N := 29) ?hd (xs := ([] : List Int)) (inner := []) (ok := fun _ => True) (okp := fun _ => True) ?hr ?hp (fun _ hk => hk) trivial (Below.refl _ _) (Nat.le_refl _) (by simp) ?_; (case hd => rfl); (case hg => rfl); (case hr => first | (go_simp; done) | (go_simp; rfl)); (case hp => exact (Reps.none _ _)); intro v185 w28 ho29 hb hg_ hnew_; clear hg_ hnew_; (first | rw [← Ny184.out] at ho29 | (simp only [Int.reduceToNat] at ho29; rw [← Ny184.out] at ho29)); have n0_ := Aside0.mk (Kd.R_lower ho29 (below_size (by repeat (first | (with_reducible first | exact HB.out | apply below_alloc | apply pw_below_drewN | apply below_drew1) | exact HB.out)))); have n1_ := Aside0.mk (below_step (by repeat (first | (with_reducible first | exact HB.out | apply below_alloc | apply pw_below_drewN | apply below_drew1) | exact HB.out)) hb); clear HB; have HO186 := n0_; have HB := n1_; clear n0_ n1_; clear hb ho29) | ((with_reducible refine gate_builtin (b := .append) (xs := #[.tmp 29, .tmp 30]) rfl ?_); (try (refine gate_guard (by rfl) ?_; dsimp only)); at_builtin; refine Kd.R_append_rows (Kd.int .i64) (w0 := w) w.heap.size rfl (.tmp 29) (.tmp 30) 22 3 (.int .i64 0) 8 rfl Try.underlying22 info3 rfl (by decide) (by omega) v185 y184 l0 _ _ _ (fun _ => True) (fun _ => False) rfl rfl ?aO ?aR (fun _ _ h => h) (fun _ h => h.elim) ?aF ?aB ?aS ?aL ?_; (case aR => repeat (first | exact (Kd.C_below HR0.out HB.out) | (with_reducible refine Kd.C_alloc ?_ _) | (with_reducible refine Kd.C_drewN ?_ _) | (with_reducible refine Kd.C_drew ?_))); (case aB => exact (by repeat (first | (with_reducible first | exact HB.out | apply below_alloc | apply pw_below_drewN | apply below_drew1) | exact HB.out))); (case aF => exact (fun _ _ => trivial)); (case aO => exact (by (with_reducible repeat (first | apply Kd.R_alloc | apply Kd.R_drewN | apply Kd.R_drew)); exact HO186.out)); (case aS => exact (below_size (by repeat (first | (with_reducible first | exact HB.out | apply below_alloc | apply pw_below_drewN | apply below_drew1) | exact HB.out)))); (case aL => have := LMc9.out; omega); intro v188 w30 ho hb hg hat; rw [← Ny187.out] at ho; have n0_ := Aside0.mk (hb); have n1_ := Aside0.mk (ho); clear HB; clear HO186; have HB := n0_; have HO189 := n1_; clear n0_ n1_; clear ho hb hg hat) | ((with_reducible refine gate_callee (f := 9) rfl ?_); refine goesL_ (some 34) rfl rfl Try.func9 (by kernel_rfl) rfl #[.slice A0 l0.length c0] rfl (by (try simp only [List.map_toArray, List.map_cons, List.map_nil]); first | done | rfl | (simp only [List.length_drop, List.length_take]; rfl)) ?_; (with_reducible refine (reorder_Order.calls _ _ l0 t190 t191 _ ?side1 ?side2 A10.out).mono ?_); (case side1 => repeat (first | exact (Kd.C_below HR0.out HB.out) | (with_reducible refine Kd.C_alloc ?_ _) | (with_reducible refine Kd.C_drewN ?_ _) | (with_reducible refine Kd.C_drew ?_))); (case side2 => exact HC0.out); rintro e w31 ⟨v192, rfl, ho0, hb⟩; refine ⟨_, rfl, ?_⟩; have n0_ := Aside0.mk (Kd.R_elder' (by (with_reducible repeat (first | apply Kd.R_alloc | apply Kd.R_drewN | apply Kd.R_drew)); exact HO189.out) (Kd.R_base ho0) hb); have n1_ := Aside0.mk (Kd.R_lower (Kd.R_new' ho0 (Kd.R_lt (by (with_reducible repeat (first | apply Kd.R_alloc | apply Kd.R_drewN | apply Kd.R_drew)); exact HO189.out))) (below_size (by repeat (first | (with_reducible first | exact HB.out | apply below_alloc | apply pw_below_drewN | apply below_drew1) | exact HB.out)))); have n2_ := Aside0.mk (below_step (by repeat (first | (with_reducible first | exact HB.out | apply below_alloc | apply pw_below_drewN | apply below_drew1) | exact HB.out)) hb); clear HO189; clear HB; have HO189 := n0_; have HO193 := n1_; have HB := n2_; clear n0_ n1_ n2_; (try clear hb); (try clear hb2); (try clear hk); (try clear hi); (try clear ho0)) | ((with_reducible refine gate_callee (f := 10) rfl ?_); refine goesL_ (some 39) rfl rfl Try.func10 (by kernel_rfl) rfl #[.slice A0 l0.length c0] rfl (by (try simp only [List.map_toArray, List.map_cons, List.map_nil]); first | done | rfl | (simp only [List.length_drop, List.length_take]; rfl)) ?_; (with_reducible refine (frisketref14_Order.calls kj3 _ _ l0 t194 t195 _ ?side1 ?side2 A11.out).mono ?_); (case side1 => repeat (first | exact (Kd.C_below HR0.out HB.out) | (with_reducible refine Kd.C_alloc ?_ _) | (with_reducible refine Kd.C_drewN ?_ _) | (with_reducible refine Kd.C_drew ?_))); (case side2 => exact HC0.out); rintro e w32 ⟨v196, rfl, ho0, hb⟩; refine ⟨_, rfl, ?_⟩; have n0_ := Aside0.mk (Kd.R_elder' (by (with_reducible repeat (first | apply Kd.R_alloc | apply Kd.R_drewN | apply Kd.R_drew)); exact HO189.out) (Kd.R_base ho0) hb); have n1_ := Aside0.mk (Kd.R_elder' (by (with_reducible repeat (first | apply Kd.R_alloc | apply Kd.R_drewN | apply Kd.R_drew)); exact HO193.out) (Kd.R_base ho0) hb); have n2_ := Aside0.mk (Kd.R_lower (Kd.R_new' (Kd.R_new' ho0 (Kd.R_lt (by (with_reducible repeat (first | apply Kd.R_alloc | apply Kd.R_drewN | apply Kd.R_drew)); exact HO189.out))) (Kd.R_lt (by (with_reducible repeat (first | apply Kd.R_alloc | apply Kd.R_drewN | apply Kd.R_drew)); exact HO193.out))) (below_size (by repeat (first | (with_reducible first | exact HB.out | apply below_alloc | apply pw_below_drewN | apply below_drew1) | exact HB.out)))); have n3_ := Aside0.mk (below_step (by repeat (first | (with_reducible first | exact HB.out | apply below_alloc | apply pw_below_drewN | apply below_drew1) | exact HB.out)) hb); clear HO189; clear HO193; clear HB; have HO189 := n0_; have HO193 := n1_; have HO197 := n2_; have HB := n3_; clear n0_ n1_ n2_ n3_; (try clear hb); (try clear hb2); (try clear hk); (try clear hi); (try clear ho0)) | ((with_reducible refine gate_callee (f := 11) rfl ?_); refine goesL_ (some 45) rfl rfl Try.func11 (by kernel_rfl) rfl #[.slice A0 l0.length c0, .bool a2] rfl (by (try simp only [List.map_toArray, List.map_cons, List.map_nil]); first | done | rfl | (simp only [List.length_drop, List.length_take]; rfl)) ?_; (with_reducible refine (reorder_Apply.calls kj3 _ _ l0 a2 t198 t199 _ ?side1 ?side2 A12.out).mono ?_); (case side1 => repeat (first | exact (Kd.C_below HR0.out HB.out) | (with_reducible refine Kd.C_alloc ?_ _) | (with_reducible refine Kd.C_drewN ?_ _) | (with_reducible refine Kd.C_drew ?_))); (case side2 => exact HC0.out); rintro e w33 ⟨v200, rfl, ho0, hb⟩; refine ⟨_, rfl, ?_⟩; have n0_ := Aside0.mk (Kd.R_elder' (by (with_reducible repeat (first | apply Kd.R_alloc | apply Kd.R_drewN | apply Kd.R_drew)); exact HO189.out) (Kd.R_base ho0) hb); have n1_ := Aside0.mk (Kd.R_elder' (by (with_reducible repeat (first | apply Kd.R_alloc | apply Kd.R_drewN | apply Kd.R_drew)); exact HO193.out) (Kd.R_base ho0) hb); have n2_ := Aside0.mk (Kd.R_elder' (by (with_reducible repeat (first | apply Kd.R_alloc | apply Kd.R_drewN | apply Kd.R_drew)); exact HO197.out) (Kd.R_base ho0) hb); have n3_ := Aside0.mk (Kd.R_lower (Kd.R_new' (Kd.R_new' (Kd.R_new' ho0 (Kd.R_lt (by (with_reducible repeat (first | apply Kd.R_alloc | apply Kd.R_drewN | apply Kd.R_drew)); exact HO189.out))) (Kd.R_lt (by (with_reducible repeat (first | apply Kd.R_alloc | apply Kd.R_drewN | apply Kd.R_drew)); exact HO193.out))) (Kd.R_lt (by (with_reducible repeat (first | apply Kd.R_alloc | apply Kd.R_drewN | apply Kd.R_drew)); exact HO197.out))) (below_size (by repeat (first | (with_reducible first | exact HB.out | apply below_alloc | apply pw_below_drewN | apply below_drew1) | exact HB.out)))); have n4_ := Aside0.mk (below_step (by repeat (first | (with_reducible first | exact HB.out | apply below_alloc | apply pw_below_drewN | apply below_drew1) | exact HB.out)) hb); clear HO189; clear HO193; clear HO197; clear HB; have HO189 := n0_; have HO193 := n1_; have HO197 := n2_; have HO201 := n3_; have HB := n4_; clear n0_ n1_ n2_ n3_ n4_; (try clear hb); (try clear hb2); (try clear hk); (try clear hi); (try clear ho0)) | ((with_reducible refine gate_callee (f := 12) rfl ?_); refine goesL_ (some 51) rfl rfl Try.func12 (by kernel_rfl) rfl #[.slice A0 l0.length c0, .bool a2] rfl (by (try simp only [List.map_toArray, List.map_cons, List.map_nil]); first | done | rfl | (simp only [List.length_drop, List.length_take]; rfl)) ?_; (with_reducible refine (frisketref14_Apply.calls kj3 _ _ l0 a2 t202 t203 _ ?side1 ?side2 A13.out).mono ?_); (case side1 => repeat (first | exact (Kd.C_below HR0.out HB.out) | (with_reducible refine Kd.C_alloc ?_ _) | (with_reducible refine Kd.C_drewN ?_ _) | (with_reducible refine Kd.C_drew ?_))); (case side2 => exact HC0.out); rintro e w34 ⟨v204, rfl, ho0, hb⟩; refine ⟨_, rfl, ?_⟩; have n0_ := Aside0.mk (Kd.R_elder' (by (with_reducible repeat (first | apply Kd.R_alloc | apply Kd.R_drewN | apply Kd.R_drew)); exact HO189.out) (Kd.R_base ho0) hb); have n1_ := Aside0.mk (Kd.R_elder' (by (with_reducible repeat (first | apply Kd.R_alloc | apply Kd.R_drewN | apply Kd.R_drew)); exact HO193.out) (Kd.R_base ho0) hb); have n2_ := Aside0.mk (Kd.R_elder' (by (with_reducible repeat (first | apply Kd.R_alloc | apply Kd.R_drewN | apply Kd.R_drew)); exact HO197.out) (Kd.R_base ho0) hb); have n3_ := Aside0.mk (Kd.R_elder' (by (with_reducible repeat (first | apply Kd.R_alloc | apply Kd.R_drewN | apply Kd.R_drew)); exact HO201.out) (Kd.R_base ho0) hb); have n4_ := Aside0.mk (Kd.R_lower (Kd.R_new' (Kd.R_new' (Kd.R_new' (Kd.R_new' ho0 (Kd.R_lt (by (with_reducible repeat (first | apply Kd.R_alloc | apply Kd.R_drewN | apply Kd.R_drew)); exact HO189.out))) (Kd.R_lt (by (with_reducible repeat (first | apply Kd.R_alloc | apply Kd.R_drewN | apply Kd.R_drew)); exact HO193.out))) (Kd.R_lt (by (with_reducible repeat (first | apply Kd.R_alloc | apply Kd.R_drewN | apply Kd.R_drew)); exact HO197.out))) (Kd.R_lt (by (with_reducible repeat (first | apply Kd.R_alloc | apply Kd.R_drewN | apply Kd.R_drew)); exact HO201.out))) (below_size (by repeat (first | (with_reducible first | exact HB.out | apply below_alloc | apply pw_below_drewN | apply below_drew1) | exact HB.out)))); have n5_ := Aside0.mk (below_step (by repeat (first | (with_reducible first | exact HB.out | apply below_alloc | apply pw_below_drewN | apply below_drew1) | exact HB.out)) hb); clear HO189; clear HO193; clear HO197; clear HO201; clear HB; have HO189 := n0_; have HO193 := n1_; have HO197 := n2_; have HO201 := n3_; have HO205 := n4_; have HB := n5_; clear n0_ n1_ n2_ n3_ n4_ n5_; (try clear hb); (try clear hb2); (try clear hk); (try clear hi); (try clear ho0)) | ((with_reducible refine gate_callee (f := 13) rfl ?_); refine goesL_ (some 56) rfl rfl Try.func13 (by kernel_rfl) rfl #[.slice A1 l1.length c1] rfl (by (try simp only [List.map_toArray, List.map_cons, List.map_nil]); first | done | rfl | (simp only [List.length_drop, List.length_take]; rfl)) ?_; (with_reducible refine (reorder_Back.calls kj3 _ _ l1 t206 t207 _ ?side1 ?side2 A14.out).mono ?_); (case side1 => repeat (first | exact (Kd.C_below HR1.out HB.out) | (with_reducible refine Kd.C_alloc ?_ _) | (with_reducible refine Kd.C_drewN ?_ _) | (with_reducible refine Kd.C_drew ?_))); (case side2 => exact HC1.out); rintro e w35 ⟨v208, rfl, ho0, hb⟩; refine ⟨_, rfl, ?_⟩; have n0_ := Aside0.mk (Kd.R_elder' (by (with_reducible repeat (first | apply Kd.R_alloc | apply Kd.R_drewN | apply Kd.R_drew)); exact HO189.out) (Kd.R_base ho0) hb); have n1_ := Aside0.mk (Kd.R_elder' (by (with_reducible repeat (first | apply Kd.R_alloc | apply Kd.R_drewN | apply Kd.R_drew)); exact HO193.out) (Kd.R_base ho0) hb); have n2_ := Aside0.mk (Kd.R_elder' (by (with_reducible repeat (first | apply Kd.R_alloc | apply Kd.R_drewN | apply Kd.R_drew)); exact HO197.out) (Kd.R_base ho0) hb); have n3_ := Aside0.mk (Kd.R_elder' (by (with_reducible repeat (first | apply Kd.R_alloc | apply Kd.R_drewN | apply Kd.R_drew)); exact HO201.out) (Kd.R_base ho0) hb); have n4_ := Aside0.mk (Kd.R_elder' (by (with_reducible repeat (first | apply Kd.R_alloc | apply Kd.R_drewN | apply Kd.R_drew)); exact HO205.out) (Kd.R_base ho0) hb); have n5_ := Aside0.mk (Kd.R_lower (Kd.R_new' (Kd.R_new' (Kd.R_new' (Kd.R_new' (Kd.R_new' ho0 (Kd.R_lt (by (with_reducible repeat (first | apply Kd.R_alloc | apply Kd.R_drewN | apply Kd.R_drew)); exact HO189.out))) (Kd.R_lt (by (with_reducible repeat (first | apply Kd.R_alloc | apply Kd.R_drewN | apply Kd.R_drew)); exact HO193.out))) (Kd.R_lt (by (with_reducible repeat (first | apply Kd.R_alloc | apply Kd.R_drewN | apply Kd.R_drew)); exact HO197.out))) (Kd.R_lt (by (with_reducible repeat (first | apply Kd.R_alloc | apply Kd.R_drewN | apply Kd.R_drew)); exact HO201.out))) (Kd.R_lt (by (with_reducible repeat (first | apply Kd.R_alloc | apply Kd.R_drewN | apply Kd.R_drew)); exact HO205.out))) (below_size (by repeat (first | (with_reducible first | exact HB.out | apply below_alloc | apply pw_below_drewN | apply below_drew1) | exact HB.out)))); have n6_ := Aside0.mk (below_step (by repeat (first | (with_reducible first | exact HB.out | apply below_alloc | apply pw_below_drewN | apply below_drew1) | exact HB.out)) hb); clear HO189; clear HO193; clear HO197; clear HO201; clear HO205; clear HB; have HO189 := n0_; have HO193 := n1_; have HO197 := n2_; have HO201 := n3_; have HO205 := n4_; have HO209 := n5_; have HB := n6_; clear n0_ n1_ n2_ n3_ n4_ n5_ n6_; (try clear hb); (try clear hb2); (try clear hk); (try clear hi); (try clear ho0)) | ((with_reducible refine gate_callee (f := 14) rfl ?_); refine goesL_ (some 61) rfl rfl Try.func14 (by kernel_rfl) rfl #[.slice A1 l1.length c1] rfl (by (try simp only [List.map_toArray, List.map_cons, List.map_nil]); first | done | rfl | (simp only [List.length_drop, List.length_take]; rfl)) ?_; (with_reducible refine (frisketref14_Back.calls kj3 _ _ l1 t210 t211 _ ?side1 ?side2 A15.out).mono ?_); (case side1 => repeat (first | exact (Kd.C_below HR1.out HB.out) | (with_reducible refine Kd.C_alloc ?_ _) | (with_reducible refine Kd.C_drewN ?_ _) | (with_reducible refine Kd.C_drew ?_))); (case side2 => exact HC1.out); rintro e w36 ⟨v212, rfl, ho0, hb⟩; refine ⟨_, rfl, ?_⟩; have n0_ := Aside0.mk (Kd.R_elder' (by (with_reducible repeat (first | apply Kd.R_alloc | apply Kd.R_drewN | apply Kd.R_drew)); exact HO189.out) (Kd.R_base ho0) hb); have n1_ := Aside0.mk (Kd.R_elder' (by (with_reducible repeat (first | apply Kd.R_alloc | apply Kd.R_drewN | apply Kd.R_drew)); exact HO193.out) (Kd.R_base ho0) hb); have n2_ := Aside0.mk (Kd.R_elder' (by (with_reducible repeat (first | apply Kd.R_alloc | apply Kd.R_drewN | apply Kd.R_drew)); exact HO197.out) (Kd.R_base ho0) hb); have n3_ := Aside0.mk (Kd.R_elder' (by (with_reducible repeat (first | apply Kd.R_alloc | apply Kd.R_drewN | apply Kd.R_drew)); exact HO201.out) (Kd.R_base ho0) hb); have n4_ := Aside0.mk (Kd.R_elder' (by (with_reducible repeat (first | apply Kd.R_alloc | apply Kd.R_drewN | apply Kd.R_drew)); exact HO205.out) (Kd.R_base ho0) hb); have n5_ := Aside0.mk (Kd.R_elder' (by (with_reducible repeat (first | apply Kd.R_alloc | apply Kd.R_drewN | apply Kd.R_drew)); exact HO209.out) (Kd.R_base ho0) hb); have n6_ := Aside0.mk (Kd.R_lower (Kd.R_new' (Kd.R_new' (Kd.R_new' (Kd.R_new' (Kd.R_new' (Kd.R_new' ho0 (Kd.R_lt (by (with_reducible repeat (first | apply Kd.R_alloc | apply Kd.R_drewN | apply Kd.R_drew)); exact HO189.out))) (Kd.R_lt (by (with_reducible repeat (first | apply Kd.R_alloc | apply Kd.R_drewN | apply Kd.R_drew)); exact HO193.out))) (Kd.R_lt (by (with_reducible repeat (first | apply Kd.R_alloc | apply Kd.R_drewN | apply Kd.R_drew)); exact HO197.out))) (Kd.R_lt (by (with_reducible repeat (first | apply Kd.R_alloc | apply Kd.R_drewN | apply Kd.R_drew)); exact HO201.out))) (Kd.R_lt (by (with_reducible repeat (first | apply Kd.R_alloc | apply Kd.R_drewN | apply Kd.R_drew)); exact HO205.out))) (Kd.R_lt (by (with_reducible repeat (first | apply Kd.R_alloc | apply Kd.R_drewN | apply Kd.R_drew)); exact HO209.out))) (below_size (by repeat (first | (with_reducible first | exact HB.out | apply below_alloc | apply pw_below_drewN | apply below_drew1) | exact HB.out)))); have n7_ := Aside0.mk (below_step (by repeat (first | (with_reducible first | exact HB.out | apply below_alloc | apply pw_below_drewN | apply below_drew1) | exact HB.out)) hb); clear HO189; clear HO193; clear HO197; clear HO201; clear HO205; clear HO209; clear HB; have HO189 := n0_; have HO193 := n1_; have HO197 := n2_; have HO201 := n3_; have HO205 := n4_; have HO209 := n5_; have HO213 := n6_; have HB := n7_; clear n0_ n1_ n2_ n3_ n4_ n5_ n6_ n7_; (try clear hb); (try clear hb2); (try clear hk); (try clear hi); (try clear ho0)) | ((with_reducible refine gate_callee (f := 8) rfl ?_); refine goesL_ (some 64) rfl rfl Try.func8 (by kernel_rfl) rfl #[] rfl (by (try simp only [List.map_toArray, List.map_cons, List.map_nil]); first | done | rfl | (simp only [List.length_drop, List.length_take]; rfl)) ?_; (with_reducible refine (frisketlaw14_alive.calls kj3  true _ A16.out).mono ?_); rintro e w37 ⟨rfl, hb⟩; refine ⟨_, rfl, ?_⟩; have n0_ := Aside0.mk (Kd.R_below (by (with_reducible repeat (first | apply Kd.R_alloc | apply Kd.R_drewN | apply Kd.R_drew)); exact HO189.out) hb); have n1_ := Aside0.mk (Kd.R_below (by (with_reducible repeat (first | apply Kd.R_alloc | apply Kd.R_drewN | apply Kd.R_drew)); exact HO193.out) hb); have n2_ := Aside0.mk (Kd.R_below (by (with_reducible repeat (first | apply Kd.R_alloc | apply Kd.R_drewN | apply Kd.R_drew)); exact HO197.out) hb); have n3_ := Aside0.mk (Kd.R_below (by (with_reducible repeat (first | apply Kd.R_alloc | apply Kd.R_drewN | apply Kd.R_drew)); exact HO201.out) hb); have n4_ := Aside0.mk (Kd.R_below (by (with_reducible repeat (first | apply Kd.R_alloc | apply Kd.R_drewN | apply Kd.R_drew)); exact HO205.out) hb); have n5_ := Aside0.mk (Kd.R_below (by (with_reducible repeat (first | apply Kd.R_alloc | apply Kd.R_drewN | apply Kd.R_drew)); exact HO209.out) hb); have n6_ := Aside0.mk (Kd.R_below (by (with_reducible repeat (first | apply Kd.R_alloc | apply Kd.R_drewN | apply Kd.R_drew)); exact HO213.out) hb); have n7_ := Aside0.mk (below_step (by repeat (first | (with_reducible first | exact HB.out | apply below_alloc | apply pw_below_drewN | apply below_drew1) | exact HB.out)) hb); clear HO189; clear HO193; clear HO197; clear HO201; clear HO205; clear HO209; clear HO213; clear HB; have HO189 := n0_; have HO193 := n1_; have HO197 := n2_; have HO201 := n3_; have HO205 := n4_; have HO209 := n5_; have HO213 := n6_; have HB := n7_; clear n0_ n1_ n2_ n3_ n4_ n5_ n6_ n7_; (try clear hb); (try clear hb2); (try clear hk); (try clear hi); obtain ⟨Ao38, co38, eo38⟩ := Kd.R_slice HO193.out; subst eo38; obtain ⟨Ao39, co39, eo39⟩ := Kd.R_slice HO197.out; subst eo39) | (go_at_call 15; (with_reducible refine (frisketref01_Ints.calls kj3 _ _ t190 _ _ t194 true _ ?side1 ?side2 ?side3 ?side4 A18.out).mono ?_); (case side1 => repeat (first | exact (Kd.R_reads' HO193.out).2.2 | (with_reducible refine Kd.C_alloc ?_ _) | (with_reducible refine Kd.C_drewN ?_ _) | (with_reducible refine Kd.C_drew ?_))); (case side2 => exact (Kd.R_reads' HO193.out).2.1); (case side3 => repeat (first | exact (Kd.R_reads' HO197.out).2.2 | (with_reducible refine Kd.C_alloc ?_ _) | (with_reducible refine Kd.C_drewN ?_ _) | (with_reducible refine Kd.C_drew ?_))); (case side4 => exact (Kd.R_reads' HO197.out).2.1); rintro e w' ⟨rfl, ⟨nd, rfl⟩⟩; obtain ⟨Ao40, co40, eo40⟩ := Kd.R_slice HO201.out; subst eo40; obtain ⟨Ao41, co41, eo41⟩ := Kd.R_slice HO205.out; subst eo41) | (go_at_call 15; (with_reducible refine (frisketref01_Ints.calls kj3 _ _ t198 _ _ t202 true _ ?side1 ?side2 ?side3 ?side4 A21.out).mono ?_); (case side1 => repeat (first | exact (Kd.R_reads' HO201.out).2.2 | (with_reducible refine Kd.C_alloc ?_ _) | (with_reducible refine Kd.C_drewN ?_ _) | (with_reducible refine Kd.C_drew ?_))); (case side2 => exact (Kd.R_reads' HO201.out).2.1); (case side3 => repeat (first | exact (Kd.R_reads' HO205.out).2.2 | (with_reducible refine Kd.C_alloc ?_ _) | (with_reducible refine Kd.C_drewN ?_ _) | (with_reducible refine Kd.C_drew ?_))); (case side4 => exact (Kd.R_reads' HO205.out).2.1); rintro e w' ⟨rfl, ⟨nd, rfl⟩⟩; obtain ⟨Ao42, co42, eo42⟩ := Kd.R_slice HO209.out; subst eo42; obtain ⟨Ao43, co43, eo43⟩ := Kd.R_slice HO213.out; subst eo43) | (go_at_call 15; (with_reducible refine (frisketref01_Ints.calls kj3 _ _ t206 _ _ t210 true _ ?side1 ?side2 ?side3 ?side4 A24.out).mono ?_); (case side1 => repeat (first | exact (Kd.R_reads' HO209.out).2.2 | (with_reducible refine Kd.C_alloc ?_ _) | (with_reducible refine Kd.C_drewN ?_ _) | (with_reducible refine Kd.C_drew ?_))); (case side2 => exact (Kd.R_reads' HO209.out).2.1); (case side3 => repeat (first | exact (Kd.R_reads' HO213.out).2.2 | (with_reducible refine Kd.C_alloc ?_ _) | (with_reducible refine Kd.C_drewN ?_ _) | (with_reducible refine Kd.C_drew ?_))); (case side4 => exact (Kd.R_reads' HO213.out).2.1); rintro e w' ⟨rfl, ⟨nd, rfl⟩⟩; obtain ⟨Ao44, co44, eo44⟩ := Kd.R_slice HO189.out; subst eo44) | (go_at_call 15; (with_reducible refine (frisketref01_Ints.calls kj3 _ _ l0 _ _ y187 t218 _ ?side1 ?side2 ?side3 ?side4 A27.out).mono ?_); (case side1 => repeat (first | exact (Kd.C_below HR0.out (by repeat (first | (with_reducible first | exact HB.out | apply below_alloc | apply pw_below_drewN | apply below_drew1) | exact HB.out))) | (with_reducible refine Kd.C_alloc ?_ _) | (with_reducible refine Kd.C_drewN ?_ _) | (with_reducible refine Kd.C_drew ?_))); (case side2 => exact HC0.out); (case side3 => repeat (first | exact (Kd.R_reads' HO189.out).2.2 | (with_reducible refine Kd.C_alloc ?_ _) | (with_reducible refine Kd.C_drewN ?_ _) | (with_reducible refine Kd.C_drew ?_))); (case side4 => exact (Kd.R_reads' HO189.out).2.1); rintro e w' ⟨rfl, ⟨nd, rfl⟩⟩))
                        go_ret
                        exact ⟨by first | rfl | (simp [errW_none, errW_some] <;> rfl) | (simp [*, errW_none, errW_some] <;> rfl), by repeat (first | (with_reducible first | exact HB.out | apply below_alloc | apply pw_below_drewN | apply below_drew1) | exact HB.out)⟩
                      · rw [if_neg c26] at H
                        have c26b0 : (t207 == t211) = false := beq_eq_false_iff_ne.mpr c26
                        have c26b1 : (t207 != t211) = true := bne_iff_ne.mpr c26
                        exact af_absurd HRT.out H (by repeat (first | exact AF.none | exact AF.false | refine AF.ite ?_ ?_ | refine AF.bind (fun _ => ?_)))
                    · replace c25 := Bool.eq_false_iff.mpr c25
                      subst c25
                      have H1 : (some false) = some r := by rw [if_neg (show ¬ (false = true) by decide)] at H; exact H
                      clear H
                      have H := H1
                      clear H1
                      exact af_absurd HRT.out H (by repeat (first | exact AF.none | exact AF.false | refine AF.ite ?_ ?_ | refine AF.bind (fun _ => ?_)))
                  · rw [if_neg c23] at H
                    have c23b0 : (t199 == t203) = false := beq_eq_false_iff_ne.mpr c23
                    have c23b1 : (t199 != t203) = true := bne_iff_ne.mpr c23
                    exact af_absurd HRT.out H (by repeat (first | exact AF.none | exact AF.false | refine AF.ite ?_ ?_ | refine AF.bind (fun _ => ?_)))
                · replace c22 := Bool.eq_false_iff.mpr c22
                  subst c22
                  have H1 : (some false) = some r := by rw [if_neg (show ¬ (false = true) by decide)] at H; exact H
                  clear H
                  have H := H1
                  clear H1
                  exact af_absurd HRT.out H (by repeat (first | exact AF.none | exact AF.false | refine AF.ite ?_ ?_ | refine AF.bind (fun _ => ?_)))
              · rw [if_neg c20] at H
                have c20b0 : (t191 == t195) = false := beq_eq_false_iff_ne.mpr c20
                have c20b1 : (t191 != t195) = true := bne_iff_ne.mpr c20
                exact af_absurd HRT.out H (by repeat (first | exact AF.none | exact AF.false | refine AF.ite ?_ ?_ | refine AF.bind (fun _ => ?_)))
            · replace c19 := Bool.eq_false_iff.mpr c19
              subst c19
              have H1 : (some false) = some r := by rw [if_neg (show ¬ (false = true) by decide)] at H; exact H
              clear H
              have H := H1
              clear H1
              exact af_absurd HRT.out H (by repeat (first | exact AF.none | exact AF.false | refine AF.ite ?_ ?_ | refine AF.bind (fun _ => ?_)))
          · replace c17 := Bool.eq_false_iff.mpr c17
            subst c17
            have H1 : (some false) = some r := by rw [if_neg (show ¬ (false = true) by decide)] at H; exact H
            clear H
            have H := H1
            clear H1
            exact af_absurd HRT.out H (by repeat (first | exact AF.none | exact AF.false | refine AF.ite ?_ ?_ | refine AF.bind (fun _ => ?_)))
        · rw [if_neg c9] at H
          exact absurd H (by simp)

end Go.Proofs.Ytbkgggcpkiddmaa.P
