/- Written by wip/tools/gprint.py of this repo over the translation: Lean functions that answer as the Go functions named below do, and the proof of it; the conditions stand in each theorem. -/
import Derived.Test.YtijikaihmaganaaP0
import Derived.Test.YtijikaihmaganaaP24
namespace Go.Proofs.Ytijikaihmaganaa.P
open Go.RowKit Go.Proofs.YtijikaihmaganaaW.PrintWords Go.Proofs.YtijikaihmaganaaW.PrintLast Go.Proofs.YtijikaihmaganaaW.PrintMore
attribute [local go_sem] max2_int min2_int max_two min_two max_three min_three max_four min_four   -- for this text's walks alone
set_option linter.unusedVariables false
set_option linter.unusedSimpArgs false

/-! ### ruby_Starts: function 27 -/
mutual
def ruby_Starts.j0 : Nat → List (S69) → Bool → Int → Int → Int → Int → Int → Int → Int → Int → Option (List Int)
  | 0, _, _, _, _, _, _, _, _, _, _ => none
  | k + 1, x0, x25, x307000, x307001, x307002, x307003, x307004, x307005, x307006, x307007 => if x25 = true then (some ([] : List Int)) else (if 0 ≤ x307000 then (if x307000 ≤ x307001 then (if x307001 ≤ (x0.length : Int) then ((some ((x0.take (x307001 : Int).toNat).drop (x307000 : Int).toNat : List (S69))).bind fun y307 => (ruby_Starts.l0 k ([] : List Int) x307003 y307 (y307.length : Int) 0)) else (none)) else (none)) else (none))
def ruby_Starts.l0 : Nat → List Int → Int → List (S69) → Int → Int → Option (List Int)
  | 0, _, _, _, _, _ => none
  | k + 1, x5, x6, x33, x34, x35 => if x35 < x34 then (if 0 ≤ x35 then (if x35 < (x33.length : Int) then (if x5.length < 17592186044416 then ((ruby_reach.f ((rd_T69 x33 x35).f0) ((rd_T69 x33 x35).f1) ((rd_T69 x33 x35).f2) ((rd_T69 x33 x35).f3) ((rd_T69 x33 x35).f4) ((rd_T69 x33 x35).f5) ((rd_T69 x33 x35).f6)).bind fun t316 => (ruby_Starts.l0 k (x5 ++ [x6]) (wrap64 (x6 + t316)) x33 x34 (wrap64 (x35 + 1)))) else (none)) else (none)) else (none)) else (some x5)
end
def ruby_Starts.f (k : Nat) (l0 : List (S69)) (a1_0 : Int) (a1_1 : Int) (a1_2 : Int) (a1_3 : Int) (a1_4 : Int) (a1_5 : Int) (a1_6 : Int) (a1_7 : Int) : Option (List Int) := if a1_0 < 0 then (ruby_Starts.j0 k l0 true a1_0 a1_1 a1_2 a1_3 a1_4 a1_5 a1_6 a1_7) else (if a1_0 > a1_1 then (ruby_Starts.j0 k l0 true a1_0 a1_1 a1_2 a1_3 a1_4 a1_5 a1_6 a1_7) else (ruby_Starts.j0 k l0 (decide (a1_1 > (l0.length : Int))) a1_0 a1_1 a1_2 a1_3 a1_4 a1_5 a1_6 a1_7))
theorem ruby_Starts.mono_l : ∀ k, (∀ y0 y1 y2 y3 y4 y5 y6 y7 y8 y9, LeO (ruby_Starts.j0 k y0 y1 y2 y3 y4 y5 y6 y7 y8 y9) (ruby_Starts.j0 (k + 1) y0 y1 y2 y3 y4 y5 y6 y7 y8 y9)) ∧ (∀ y0 y1 y2 y3 y4, LeO (ruby_Starts.l0 k y0 y1 y2 y3 y4) (ruby_Starts.l0 (k + 1) y0 y1 y2 y3 y4))
  | 0 => ⟨fun _ _ _ _ _ _ _ _ _ _ r h => by simp [ruby_Starts.j0] at h, fun _ _ _ _ _ r h => by simp [ruby_Starts.l0] at h⟩
  | k + 1 => by
    obtain ⟨ih0, ih1⟩ := ruby_Starts.mono_l k
    refine ⟨?_, ?_⟩
    · intro y0 y1 y2 y3 y4 y5 y6 y7 y8 y9
      unfold ruby_Starts.j0
      repeat' first
      | (with_reducible exact ih0 _ _ _ _ _ _ _ _ _ _)
      | (with_reducible exact ih1 _ _ _ _ _)
      | (with_reducible exact LeO.refl _)
      | (with_reducible exact LeO.none _)
      | (with_reducible refine LeO.ite ?_ ?_)
      | (with_reducible refine LeO.bind ?_ (fun _ => ?_))
      | exact ih0 _ _ _ _ _ _ _ _ _ _
      | exact ih1 _ _ _ _ _
      | exact LeO.none _
      | refine LeO.ite ?_ ?_
      | refine LeO.bind ?_ (fun _ => ?_)
    · intro y0 y1 y2 y3 y4
      unfold ruby_Starts.l0
      repeat' first
      | (with_reducible exact ih0 _ _ _ _ _ _ _ _ _ _)
      | (with_reducible exact ih1 _ _ _ _ _)
      | (with_reducible exact LeO.refl _)
      | (with_reducible exact LeO.none _)
      | (with_reducible refine LeO.ite ?_ ?_)
      | (with_reducible refine LeO.bind ?_ (fun _ => ?_))
      | exact ih0 _ _ _ _ _ _ _ _ _ _
      | exact ih1 _ _ _ _ _
      | exact LeO.none _
      | refine LeO.ite ?_ ?_
      | refine LeO.bind ?_ (fun _ => ?_)
theorem ruby_Starts.mono : ∀ a0 a1 a2 a3 a4 a5 a6 a7 a8 k, LeO (ruby_Starts.f k a0 a1 a2 a3 a4 a5 a6 a7 a8) (ruby_Starts.f (k + 1) a0 a1 a2 a3 a4 a5 a6 a7 a8) := by
  intro a0 a1 a2 a3 a4 a5 a6 a7 a8 k
  obtain ⟨ih0, ih1⟩ := ruby_Starts.mono_l k
  unfold ruby_Starts.f
  repeat' first
      | (with_reducible exact ih0 _ _ _ _ _ _ _ _ _ _)
      | (with_reducible exact ih1 _ _ _ _ _)
      | (with_reducible exact LeO.refl _)
      | (with_reducible exact LeO.none _)
      | (with_reducible refine LeO.ite ?_ ?_)
      | (with_reducible refine LeO.bind ?_ (fun _ => ?_))
      | exact ih0 _ _ _ _ _ _ _ _ _ _
      | exact ih1 _ _ _ _ _
      | exact LeO.none _
      | refine LeO.ite ?_ ?_
      | refine LeO.bind ?_ (fun _ => ?_)
set_option maxHeartbeats 8000000 in
set_option maxRecDepth 100000 in
theorem ruby_Starts.calls (k : Nat) (A0 : Option Addr) (c0 : Nat) (l0 : List (S69)) (a1_0 : Int) (a1_1 : Int) (a1_2 : Int) (a1_3 : Int) (a1_4 : Int) (a1_5 : Int) (a1_6 : Int) (a1_7 : Int) (r : List Int) (w : World) (hr0 : Kd.C k69 w A0 l0.length l0) (hc0 : l0.length ≤ c0) (h : ruby_Starts.f k l0 a1_0 a1_1 a1_2 a1_3 a1_4 a1_5 a1_6 a1_7 = some r) :
    Calls Try.prog 27 #[.slice A0 l0.length c0, .agg #[.int .i64 a1_0, .int .i64 a1_1, .int .i64 a1_2, .int .i64 a1_3, .int .i64 a1_4, .int .i64 a1_5, .int .i64 a1_6, .int .i64 a1_7]] w fun e w' => ∃ v0_ : Value, e = .returned (v0_) ∧ Kd.R (Kd.int .i64) 3 w' w.heap.size (fun _ => True) v0_ r ∧ Below w.heap.size w w' := by
  have hu49 := Try.underlying49
  have hu69 := Try.underlying69
  have HR0 := Aside0.mk hr0
  have HC0 := Aside0.mk hc0
  clear hr0 hc0
  have HB := Aside0.mk (Below.refl w.heap.size w)
  have H : (if a1_0 < 0 then (ruby_Starts.j0 k l0 true a1_0 a1_1 a1_2 a1_3 a1_4 a1_5 a1_6 a1_7) else (if a1_0 > a1_1 then (ruby_Starts.j0 k l0 true a1_0 a1_1 a1_2 a1_3 a1_4 a1_5 a1_6 a1_7) else (ruby_Starts.j0 k l0 (decide (a1_1 > (l0.length : Int))) a1_0 a1_1 a1_2 a1_3 a1_4 a1_5 a1_6 a1_7))) = some r := h
  clear h
  have HC3 := Aside0.mk H
  clear H
  go_enter Try.func27, Try.ntmps27
  go_upto_region 1 with (first | ((with_reducible refine gate_dst (N := 3) rfl ?_); (try (refine gate_guard (by rfl) ?_; dsimp only)); refine box_event ?hg (N := 3) ?hd (cs := #[.int .i64 a1_0, .int .i64 a1_1, .int .i64 a1_2, .int .i64 a1_3, .int .i64 a1_4, .int .i64 a1_5, .int .i64 a1_6, .int .i64 a1_7]) (t := 49) ?hr ?_; (case hd => rfl); (case hg => rfl); (case hr => first | (go_simp; done) | (go_simp; rfl)); intro gb306 hg w4 hbox hb; have n0_ := Aside0.mk (below_step (by repeat (first | (with_reducible first | exact HB.out | apply below_alloc | apply pw_below_drewN | apply below_drew1) | exact HB.out)) hb); have n1_ := Aside0.mk (hbox); have n2_ := Aside0.mk ((by rw [hg]; exact (below_size (by repeat (first | (with_reducible first | exact HB.out | apply below_alloc | apply pw_below_drewN | apply below_drew1) | exact HB.out))) : w.heap.size ≤ gb306)); have n3_ := Aside0.mk ((by rw [hg]; exact (below_size (by repeat (first | (with_reducible first | exact HB.out | apply below_alloc | apply pw_below_drewN | apply below_drew1) | exact HB.out))) : w.heap.size ≤ gb306)); clear HB; have HB := n0_; have BK306 := n1_; have GW306 := n2_; have GE306 := n3_; clear n0_ n1_ n2_ n3_; clear hb hbox hg))
  (try simp only [Act.put, List.setIfInBounds_toArray, List.set_cons_zero, List.set_cons_succ])
  go_cut [25] (fun v25 wc => ∃ (kq : Nat) (x25_2 : Bool), v25 = .bool x25_2 ∧ Aside0 (ruby_Starts.j0 kq l0 x25_2 a1_0 a1_1 a1_2 a1_3 a1_4 a1_5 a1_6 a1_7 = some r) ∧ Aside0 (kq ≤ k) ∧ Aside0 (wc.heap[gb306]? = some (.cells #[.int .i64 a1_0, .int .i64 a1_1, .int .i64 a1_2, .int .i64 a1_3, .int .i64 a1_4, .int .i64 a1_5, .int .i64 a1_6, .int .i64 a1_7] 49 (0, 0))) ∧ Aside0 (Below w.heap.size w wc))
  case first =>
    have H := HC3.out
    clear HC3
    by_cases c5 : a1_0 < 0
    · rw [if_pos c5] at H
      have c5b0 : decide (a1_0 < 0) = true := decide_eq_true c5
      clear c5
      (first | rw [c5b0] | (simp only [i64_w, i32_w]; rw [c5b0]) | skip)
      have H' := Aside0.mk H
      clear H
      have hcz6_0 : w4.cell? ⟨gb306, 0, none⟩ = some (.int .i64 a1_0) := (blk_cell BK306.out 0).trans rfl
      have hcz6_1 : w4.cell? ⟨gb306, 1, none⟩ = some (.int .i64 a1_1) := (blk_cell BK306.out 1).trans rfl
      have hcz6_2 : w4.cell? ⟨gb306, 2, none⟩ = some (.int .i64 a1_2) := (blk_cell BK306.out 2).trans rfl
      have hcz6_3 : w4.cell? ⟨gb306, 3, none⟩ = some (.int .i64 a1_3) := (blk_cell BK306.out 3).trans rfl
      have hcz6_4 : w4.cell? ⟨gb306, 4, none⟩ = some (.int .i64 a1_4) := (blk_cell BK306.out 4).trans rfl
      have hcz6_5 : w4.cell? ⟨gb306, 5, none⟩ = some (.int .i64 a1_5) := (blk_cell BK306.out 5).trans rfl
      have hcz6_6 : w4.cell? ⟨gb306, 6, none⟩ = some (.int .i64 a1_6) := (blk_cell BK306.out 6).trans rfl
      have hcz6_7 : w4.cell? ⟨gb306, 7, none⟩ = some (.int .i64 a1_7) := (blk_cell BK306.out 7).trans rfl
      have hfz6_0 := blk_frozen BK306.out 0
      have hfz6_1 := blk_frozen BK306.out 1
      have hfz6_2 := blk_frozen BK306.out 2
      have hfz6_3 := blk_frozen BK306.out 3
      have hfz6_4 := blk_frozen BK306.out 4
      have hfz6_5 := blk_frozen BK306.out 5
      have hfz6_6 := blk_frozen BK306.out 6
      have hfz6_7 := blk_frozen BK306.out 7
      go_wp2
      go_meet
      case rel => exact ⟨_, (true), (by first | rfl | (simp; done) | (simp [*]; done)), H', ⟨by first | omega | exact Nat.le_refl _⟩, ⟨by (with_reducible repeat (first | refine blk_drewN ?_ _ | refine blk_drew ?_ | refine blk_alloc ?_ _)); exact BK306.out⟩, ⟨by repeat (first | (with_reducible first | exact HB.out | apply below_alloc | apply pw_below_drewN | apply below_drew1 | refine below_set ?_ GE306.out) | exact HB.out)⟩⟩
    · rw [if_neg c5] at H
      have c5b0 : decide (a1_0 < 0) = false := decide_eq_false c5
      clear c5
      (first | rw [c5b0] | (simp only [i64_w, i32_w]; rw [c5b0]) | skip)
      by_cases c7 : a1_0 > a1_1
      · rw [if_pos c7] at H
        have c7b0 : decide (a1_1 < a1_0) = true := decide_eq_true c7
        clear c7
        have H' := Aside0.mk H
        clear H
        have hcz8_0 : w4.cell? ⟨gb306, 0, none⟩ = some (.int .i64 a1_0) := (blk_cell BK306.out 0).trans rfl
        have hcz8_1 : w4.cell? ⟨gb306, 1, none⟩ = some (.int .i64 a1_1) := (blk_cell BK306.out 1).trans rfl
        have hcz8_2 : w4.cell? ⟨gb306, 2, none⟩ = some (.int .i64 a1_2) := (blk_cell BK306.out 2).trans rfl
        have hcz8_3 : w4.cell? ⟨gb306, 3, none⟩ = some (.int .i64 a1_3) := (blk_cell BK306.out 3).trans rfl
        have hcz8_4 : w4.cell? ⟨gb306, 4, none⟩ = some (.int .i64 a1_4) := (blk_cell BK306.out 4).trans rfl
        have hcz8_5 : w4.cell? ⟨gb306, 5, none⟩ = some (.int .i64 a1_5) := (blk_cell BK306.out 5).trans rfl
        have hcz8_6 : w4.cell? ⟨gb306, 6, none⟩ = some (.int .i64 a1_6) := (blk_cell BK306.out 6).trans rfl
        have hcz8_7 : w4.cell? ⟨gb306, 7, none⟩ = some (.int .i64 a1_7) := (blk_cell BK306.out 7).trans rfl
        have hfz8_0 := blk_frozen BK306.out 0
        have hfz8_1 := blk_frozen BK306.out 1
        have hfz8_2 := blk_frozen BK306.out 2
        have hfz8_3 := blk_frozen BK306.out 3
        have hfz8_4 := blk_frozen BK306.out 4
        have hfz8_5 := blk_frozen BK306.out 5
        have hfz8_6 := blk_frozen BK306.out 6
        have hfz8_7 := blk_frozen BK306.out 7
        go_wp2
        go_meet
        case rel => exact ⟨_, (true), (by first | rfl | (simp; done) | (simp [*]; done)), H', ⟨by first | omega | exact Nat.le_refl _⟩, ⟨by (with_reducible repeat (first | refine blk_drewN ?_ _ | refine blk_drew ?_ | refine blk_alloc ?_ _)); exact BK306.out⟩, ⟨by repeat (first | (with_reducible first | exact HB.out | apply below_alloc | apply pw_below_drewN | apply below_drew1 | refine below_set ?_ GE306.out) | exact HB.out)⟩⟩
      · rw [if_neg c7] at H
        have c7b0 : decide (a1_1 < a1_0) = false := decide_eq_false c7
        clear c7
        have H' := Aside0.mk H
        clear H
        have hcz9_0 : w4.cell? ⟨gb306, 0, none⟩ = some (.int .i64 a1_0) := (blk_cell BK306.out 0).trans rfl
        have hcz9_1 : w4.cell? ⟨gb306, 1, none⟩ = some (.int .i64 a1_1) := (blk_cell BK306.out 1).trans rfl
        have hcz9_2 : w4.cell? ⟨gb306, 2, none⟩ = some (.int .i64 a1_2) := (blk_cell BK306.out 2).trans rfl
        have hcz9_3 : w4.cell? ⟨gb306, 3, none⟩ = some (.int .i64 a1_3) := (blk_cell BK306.out 3).trans rfl
        have hcz9_4 : w4.cell? ⟨gb306, 4, none⟩ = some (.int .i64 a1_4) := (blk_cell BK306.out 4).trans rfl
        have hcz9_5 : w4.cell? ⟨gb306, 5, none⟩ = some (.int .i64 a1_5) := (blk_cell BK306.out 5).trans rfl
        have hcz9_6 : w4.cell? ⟨gb306, 6, none⟩ = some (.int .i64 a1_6) := (blk_cell BK306.out 6).trans rfl
        have hcz9_7 : w4.cell? ⟨gb306, 7, none⟩ = some (.int .i64 a1_7) := (blk_cell BK306.out 7).trans rfl
        have hfz9_0 := blk_frozen BK306.out 0
        have hfz9_1 := blk_frozen BK306.out 1
        have hfz9_2 := blk_frozen BK306.out 2
        have hfz9_3 := blk_frozen BK306.out 3
        have hfz9_4 := blk_frozen BK306.out 4
        have hfz9_5 := blk_frozen BK306.out 5
        have hfz9_6 := blk_frozen BK306.out 6
        have hfz9_7 := blk_frozen BK306.out 7
        go_wp2
        go_meet
        case rel => exact ⟨_, (decide (a1_1 > (l0.length : Int))), (by first | rfl | (simp; done) | (simp [*]; done)), H', ⟨by first | omega | exact Nat.le_refl _⟩, ⟨by (with_reducible repeat (first | refine blk_drewN ?_ _ | refine blk_drew ?_ | refine blk_alloc ?_ _)); exact BK306.out⟩, ⟨by repeat (first | (with_reducible first | exact HB.out | apply below_alloc | apply pw_below_drewN | apply below_drew1 | refine below_set ?_ GE306.out) | exact HB.out)⟩⟩
  case rest =>
    clear HC3
    try clear c2
    try clear p2
    try clear c5
    try clear c5b0
    try clear c7
    try clear c7b0
    try clear hcz6_0
    try clear hcz6_1
    try clear hcz6_2
    try clear hcz6_3
    try clear hcz6_4
    try clear hcz6_5
    try clear hcz6_6
    try clear hcz6_7
    try clear hcz8_0
    try clear hcz8_1
    try clear hcz8_2
    try clear hcz8_3
    try clear hcz8_4
    try clear hcz8_5
    try clear hcz8_6
    try clear hcz8_7
    try clear hcz9_0
    try clear hcz9_1
    try clear hcz9_2
    try clear hcz9_3
    try clear hcz9_4
    try clear hcz9_5
    try clear hcz9_6
    try clear hcz9_7
    try clear hfz6_0
    try clear hfz6_1
    try clear hfz6_2
    try clear hfz6_3
    try clear hfz6_4
    try clear hfz6_5
    try clear hfz6_6
    try clear hfz6_7
    try clear hfz8_0
    try clear hfz8_1
    try clear hfz8_2
    try clear hfz8_3
    try clear hfz8_4
    try clear hfz8_5
    try clear hfz8_6
    try clear hfz8_7
    try clear hfz9_0
    try clear hfz9_1
    try clear hfz9_2
    try clear hfz9_3
    try clear hfz9_4
    try clear hfz9_5
    try clear hfz9_6
    try clear hfz9_7
    obtain ⟨kq, x25_2, rfl, HA, HJ2, BK306, HB⟩ := hcut
    cases kq with
    | zero => exact absurd HA.out (by simp [ruby_Starts.j0])
    | succ kj2 =>
      have H := HA.out
      clear HA
      simp only [ruby_Starts.j0] at H
      by_cases c10 : x25_2 = true
      · subst c10
        have H1 : (some ([] : List Int)) = some r := by rw [if_pos rfl] at H; exact H
        clear H
        have H := H1
        clear H1
        obtain rfl := Option.some.inj H
        go_wp2
        go_ret
        exact ⟨_, by first | rfl | (simp [errW_none, errW_some] <;> rfl) | (simp [*, errW_none, errW_some] <;> rfl), by first | exact Kd.R_nil _ _ _ _ _ | exact Kd.N_nil _ _ _ _ _ | exact Kd.V_nil _ _ _ _ _ | exact Kd.Q_nil _ _ _ _ _ | exact Kd.S_nil _ _ _ _ _, by repeat (first | (with_reducible first | exact HB.out | apply below_alloc | apply pw_below_drewN | apply below_drew1 | refine below_set ?_ GE306.out) | exact HB.out)⟩
      · replace c10 := Bool.eq_false_iff.mpr c10
        subst c10
        have H1 : (if 0 ≤ a1_0 then (if a1_0 ≤ a1_1 then (if a1_1 ≤ (l0.length : Int) then ((some ((l0.take (a1_1 : Int).toNat).drop (a1_0 : Int).toNat : List (S69))).bind fun y307 => (ruby_Starts.l0 kj2 ([] : List Int) a1_3 y307 (y307.length : Int) 0)) else (none)) else (none)) else (none)) = some r := by rw [if_neg (show ¬ (false = true) by decide)] at H; exact H
        clear H
        have H := H1
        clear H1
        by_cases c11 : 0 ≤ a1_0
        · rw [if_pos c11] at H
          have c11b0 := eq_true c11
          have c11b1 : decide (0 ≤ a1_0) = true := decide_eq_true c11
          clear c11
          by_cases c12 : a1_0 ≤ a1_1
          · rw [if_pos c12] at H
            have c12b0 := eq_true c12
            have c12b1 : decide (a1_0 ≤ a1_1) = true := decide_eq_true c12
            clear c12
            by_cases c13 : a1_1 ≤ (l0.length : Int)
            · rw [if_pos c13] at H
              have c13b0 := eq_true c13
              have c13b1 : decide (a1_1 ≤ (l0.length : Int)) = true := decide_eq_true c13
              clear c13
              obtain ⟨y307, hy307⟩ : ∃ y_ : List (S69), y_ = ((l0.take (a1_1 : Int).toNat).drop (a1_0 : Int).toNat) := ⟨_, rfl⟩
              replace H : (ruby_Starts.l0 kj2 ([] : List Int) a1_3 y307 (y307.length : Int) 0) = some r := by first | (rw [hy307]; with_reducible exact H) | (have H2_ := (Option.bind_some _ _).symm.trans H; rw [hy307]; with_reducible exact H2_) | (have H2_ := (Option.bind_some _ _).symm.trans H; with_reducible exact H2_) | with_reducible exact H | (rw [hy307]; exact H) | exact H
              have Ny307 := Aside0.mk hy307
              clear hy307
              have H' := Aside0.mk H
              clear H
              have hcz14_0 : wc.cell? ⟨gb306, 0, none⟩ = some (.int .i64 a1_0) := (blk_cell BK306.out 0).trans rfl
              have hcz14_1 : wc.cell? ⟨gb306, 1, none⟩ = some (.int .i64 a1_1) := (blk_cell BK306.out 1).trans rfl
              have hcz14_2 : wc.cell? ⟨gb306, 2, none⟩ = some (.int .i64 a1_2) := (blk_cell BK306.out 2).trans rfl
              have hcz14_3 : wc.cell? ⟨gb306, 3, none⟩ = some (.int .i64 a1_3) := (blk_cell BK306.out 3).trans rfl
              have hcz14_4 : wc.cell? ⟨gb306, 4, none⟩ = some (.int .i64 a1_4) := (blk_cell BK306.out 4).trans rfl
              have hcz14_5 : wc.cell? ⟨gb306, 5, none⟩ = some (.int .i64 a1_5) := (blk_cell BK306.out 5).trans rfl
              have hcz14_6 : wc.cell? ⟨gb306, 6, none⟩ = some (.int .i64 a1_6) := (blk_cell BK306.out 6).trans rfl
              have hcz14_7 : wc.cell? ⟨gb306, 7, none⟩ = some (.int .i64 a1_7) := (blk_cell BK306.out 7).trans rfl
              have hfz14_0 := blk_frozen BK306.out 0
              have hfz14_1 := blk_frozen BK306.out 1
              have hfz14_2 := blk_frozen BK306.out 2
              have hfz14_3 := blk_frozen BK306.out 3
              have hfz14_4 := blk_frozen BK306.out 4
              have hfz14_5 := blk_frozen BK306.out 5
              have hfz14_6 := blk_frozen BK306.out 6
              have hfz14_7 := blk_frozen BK306.out 7
              have q15 : (a1_1 : Int) ≤ ((l0.length : Int) : Int) := of_decide_eq_true (by first | (with_reducible assumption) | assumption)
              obtain ⟨i015, hi015, _, hsz15, _⟩ := info_parts info69
              have hroom15 : l0.length ≤ c0 := HC0.out
              have hC15 : Kd.C k69 _ A0 l0.length l0 := HR0.out
              have ql15 : (a1_0 : Int) ≤ (a1_1 : Int) := of_decide_eq_true (by first | (with_reducible assumption) | assumption)
              have q015 : (0 : Int) ≤ (a1_0 : Int) := of_decide_eq_true (by first | (with_reducible assumption) | assumption)
              have hcut15 := cut_mid (P := Try.prog) 46 69 .i64 .i64 Try.underlying46 hi015 7 hsz15 A0 l0.length c0 a1_0 a1_1 q015 ql15 q15 hroom15
              have hr15 := Kd.C_mid (lo := (a1_0 : Int).toNat) (hi := (a1_1 : Int).toNat) (c := c0) hC15 (by omega) (by omega) hroom15
              obtain ⟨A15, hA15⟩ : ∃ A1, A1 = (if c0 = (a1_0 : Int).toNat then A0 else (A0 : Option Addr).map (·.add ((a1_0 : Int).toNat * 7))) := ⟨_, rfl⟩
              obtain ⟨c15, hc15⟩ : ∃ c1, c1 = c0 - (a1_0 : Int).toNat := ⟨_, rfl⟩
              have hy15 : y307.length = (a1_1 : Int).toNat - (a1_0 : Int).toNat := (by rw [Ny307.out, List.length_drop, List.length_take] <;> omega)
              rw [show ((l0).take (a1_1 : Int).toNat).drop (a1_0 : Int).toNat = y307 from Ny307.out.symm] at hr15
              replace hr15 : Kd.C k69 _ A15 y307.length y307 := (by rw [hA15]; exact hr15)
              rw [← hy15, ← hA15, ← hc15] at hcut15
              have HR310 := Aside0.mk hr15
              have HC310 := Aside0.mk (show y307.length ≤ c15 from by rw [hy15, hc15]; exact Nat.sub_le_sub_right (Nat.le_trans (by omega) hroom15) _)
              clear hr15 hC15 hroom15 hi015 hsz15 hc15
              have KY15 := Aside0.mk hy15
              have KA15 := Aside0.mk hA15
              clear hy15 hA15
              replace q15 := eq_true q15
              go_wp2
              go_loopg [5, 6, 35] kj2 (fun kq v5 v6 v35 w' => ∃ (x5_2 : List Int) (x6_2 : Int) (x35_2 : Int), v6 = .int .i64 x6_2 ∧ v35 = .int .i64 x35_2 ∧ Aside0 (ruby_Starts.l0 kq x5_2 x6_2 y307 (y307.length : Int) x35_2 = some r) ∧ Aside0 (kq ≤ kj2) ∧ Aside0 (Kd.R (Kd.int .i64) 3 w' w.heap.size (fun _ => True) v5 x5_2) ∧ Aside0 (w'.heap[gb306]? = some (.cells #[.int .i64 a1_0, .int .i64 a1_1, .int .i64 a1_2, .int .i64 a1_3, .int .i64 a1_4, .int .i64 a1_5, .int .i64 a1_6, .int .i64 a1_7] 49 (0, 0))) ∧ Aside0 (Below w.heap.size w w'))
              case atStart => exact ⟨(([] : List Int)), (a1_3), (0), (by first | rfl | (simp; done) | (simp [*]; done)), (by first | rfl | (simp; done) | (simp [*]; done)), H', ⟨Nat.le_refl _⟩, ⟨by first | exact Kd.R_nil _ _ _ _ _ | exact Kd.N_nil _ _ _ _ _ | exact Kd.V_nil _ _ _ _ _ | exact Kd.Q_nil _ _ _ _ _ | exact Kd.S_nil _ _ _ _ _⟩, ⟨by (with_reducible repeat (first | refine blk_drewN ?_ _ | refine blk_drew ?_ | refine blk_alloc ?_ _)); exact BK306.out⟩, ⟨by repeat (first | (with_reducible first | exact HB.out | apply below_alloc | apply pw_below_drewN | apply below_drew1 | refine below_set ?_ GE306.out) | exact HB.out)⟩⟩
              case round =>
                clear H'
                try clear c1
                try clear q1
                try clear c2
                try clear p2
                try clear c5
                try clear c5b0
                try clear c7
                try clear c7b0
                try clear c10
                try clear c11
                try clear c11b0
                try clear c11b1
                try clear c12
                try clear c12b0
                try clear c12b1
                try clear c13
                try clear c13b0
                try clear c13b1
                try clear c15
                try clear q15
                try clear hcz14_0
                try clear hcz14_1
                try clear hcz14_2
                try clear hcz14_3
                try clear hcz14_4
                try clear hcz14_5
                try clear hcz14_6
                try clear hcz14_7
                try clear hcz6_0
                try clear hcz6_1
                try clear hcz6_2
                try clear hcz6_3
                try clear hcz6_4
                try clear hcz6_5
                try clear hcz6_6
                try clear hcz6_7
                try clear hcz8_0
                try clear hcz8_1
                try clear hcz8_2
                try clear hcz8_3
                try clear hcz8_4
                try clear hcz8_5
                try clear hcz8_6
                try clear hcz8_7
                try clear hcz9_0
                try clear hcz9_1
                try clear hcz9_2
                try clear hcz9_3
                try clear hcz9_4
                try clear hcz9_5
                try clear hcz9_6
                try clear hcz9_7
                try clear hfz14_0
                try clear hfz14_1
                try clear hfz14_2
                try clear hfz14_3
                try clear hfz14_4
                try clear hfz14_5
                try clear hfz14_6
                try clear hfz14_7
                try clear hfz6_0
                try clear hfz6_1
                try clear hfz6_2
                try clear hfz6_3
                try clear hfz6_4
                try clear hfz6_5
                try clear hfz6_6
                try clear hfz6_7
                try clear hfz8_0
                try clear hfz8_1
                try clear hfz8_2
                try clear hfz8_3
                try clear hfz8_4
                try clear hfz8_5
                try clear hfz8_6
                try clear hfz8_7
                try clear hfz9_0
                try clear hfz9_1
                try clear hfz9_2
                try clear hfz9_3
                try clear hfz9_4
                try clear hfz9_5
                try clear hfz9_6
                try clear hfz9_7
                try clear p2
                try clear q015
                try clear q15
                obtain ⟨x5_2, x6_2, x35_2, rfl, rfl, HA, HK2, HO_5, BK306, HB⟩ := hrel
                cases gk with
                | zero => exact absurd HA.out (by simp [ruby_Starts.l0])
                | succ k2 =>
                  have H := HA.out
                  clear HA
                  simp only [ruby_Starts.l0] at H
                  by_cases c16 : x35_2 < (y307.length : Int)
                  · rw [if_pos c16] at H
                    have c16b0 : decide (x35_2 < (y307.length : Int)) = true := decide_eq_true c16
                    clear c16
                    by_cases c17 : 0 ≤ x35_2
                    · rw [if_pos c17] at H
                      have c17b0 : decide (0 ≤ x35_2) = true := decide_eq_true c17
                      clear c17
                      by_cases c18 : x35_2 < (y307.length : Int)
                      · rw [if_pos c18] at H
                        have c18b0 : decide (x35_2 < (y307.length : Int)) = true := decide_eq_true c18
                        clear c18
                        by_cases c19 : x5_2.length < 17592186044416
                        · rw [if_pos c19] at H
                          have LMc19 := Aside0.mk c19
                          clear c19
                          obtain ⟨y313, hy313⟩ : ∃ y_ : List Int, y_ = (x5_2 ++ [x6_2]) := ⟨_, rfl⟩
                          replace H : ((ruby_reach.f ((rd_T69 y307 x35_2).f0) ((rd_T69 y307 x35_2).f1) ((rd_T69 y307 x35_2).f2) ((rd_T69 y307 x35_2).f3) ((rd_T69 y307 x35_2).f4) ((rd_T69 y307 x35_2).f5) ((rd_T69 y307 x35_2).f6)).bind fun t316 => (ruby_Starts.l0 k2 y313 (wrap64 (x6_2 + t316)) y307 (y307.length : Int) (wrap64 (x35_2 + 1)))) = some r := by first | (rw [hy313]; with_reducible exact H) | (have H2_ := (Option.bind_some _ _).symm.trans H; rw [hy313]; with_reducible exact H2_) | (have H2_ := (Option.bind_some _ _).symm.trans H; with_reducible exact H2_) | with_reducible exact H | (rw [hy313]; exact H) | exact H
                          have Ny313 := Aside0.mk hy313
                          clear hy313
                          replace H := Option.bind_eq_some_iff.mp H
                          obtain ⟨t316, A200, H⟩ := H
                          replace H : (ruby_Starts.l0 k2 y313 (wrap64 (x6_2 + t316)) y307 (y307.length : Int) (wrap64 (x35_2 + 1))) = some r := H
                          have A20 := Aside0.mk A200
                          clear A200
                          have H' := Aside0.mk H
                          clear H
                          have p311 : 0 ≤ (x35_2 : Int) := of_decide_eq_true (by first | (with_reducible assumption) | assumption)
                          have q311 : x35_2 < (y307.length : Int) := of_decide_eq_true (by first | (with_reducible assumption) | assumption)
                          obtain ⟨ad311, e311, hx311_0, hx311_1, hx311_2, hx311_3, hx311_4, hx311_5, hx311_6⟩ := at_T69 HR310.out x35_2 p311 q311
                          cases e311
                          replace hx311_0 := (HB.out.cell (World.block_lt_of_cell? w _ hx311_0)).trans hx311_0
                          replace hx311_1 := (HB.out.cell (World.block_lt_of_cell? w _ hx311_1)).trans hx311_1
                          replace hx311_2 := (HB.out.cell (World.block_lt_of_cell? w _ hx311_2)).trans hx311_2
                          replace hx311_3 := (HB.out.cell (World.block_lt_of_cell? w _ hx311_3)).trans hx311_3
                          replace hx311_4 := (HB.out.cell (World.block_lt_of_cell? w _ hx311_4)).trans hx311_4
                          replace hx311_5 := (HB.out.cell (World.block_lt_of_cell? w _ hx311_5)).trans hx311_5
                          replace hx311_6 := (HB.out.cell (World.block_lt_of_cell? w _ hx311_6)).trans hx311_6
                          replace p311 := eq_true p311
                          replace q311 := eq_true q311
                          go_wp2_with (first | ((with_reducible refine gate_dst (N := 8) rfl ?_); (try (refine gate_guard (by rfl) ?_; dsimp only)); refine box_event ?hg (N := 8) ?hd (cs := #[.int .i64 0, .int .i64 0, .int .i64 0, .int .i64 0, .int .i64 0, .int .i64 0, .bool false]) (t := 69) ?hr ?_; (case hd => rfl); (case hg => rfl); (case hr => first | (go_simp; done) | (go_simp; rfl)); intro gb312 hg w21 hbox hb; have n0_ := Aside0.mk (Kd.R_below (by (with_reducible repeat (first | apply Kd.R_alloc | apply Kd.R_drewN | apply Kd.R_drew)); exact HO_5.out) hb); have n1_ := Aside0.mk (blk_below (g := gb306) (o := .cells #[.int .i64 a1_0, .int .i64 a1_1, .int .i64 a1_2, .int .i64 a1_3, .int .i64 a1_4, .int .i64 a1_5, .int .i64 a1_6, .int .i64 a1_7] 49 (0, 0)) (by (with_reducible repeat (first | refine blk_drewN ?_ _ | refine blk_drew ?_ | refine blk_alloc ?_ _)); exact BK306.out) hb); have n2_ := Aside0.mk (below_step (by repeat (first | (with_reducible first | exact HB.out | apply below_alloc | apply pw_below_drewN | apply below_drew1 | refine below_set ?_ GE306.out) | exact HB.out)) hb); have n3_ := Aside0.mk (hbox); have n4_ := Aside0.mk ((by rw [hg]; exact (below_size (by repeat (first | (with_reducible first | exact HB.out | apply below_alloc | apply pw_below_drewN | apply below_drew1 | refine below_set ?_ GE306.out) | exact HB.out))) : w.heap.size ≤ gb312)); have n5_ := Aside0.mk ((by rw [hg]; exact (below_size (by repeat (first | (with_reducible first | exact HB.out | apply below_alloc | apply pw_below_drewN | apply below_drew1 | refine below_set ?_ GE306.out) | exact HB.out))) : w.heap.size ≤ gb312)); have n6_ := Aside0.mk ((by rw [hg]; exact Nat.ne_of_lt (blk_lt (g := gb306) (o := .cells #[.int .i64 a1_0, .int .i64 a1_1, .int .i64 a1_2, .int .i64 a1_3, .int .i64 a1_4, .int .i64 a1_5, .int .i64 a1_6, .int .i64 a1_7] 49 (0, 0)) (by (with_reducible repeat (first | refine blk_drewN ?_ _ | refine blk_drew ?_ | refine blk_alloc ?_ _)); exact BK306.out)) : gb306 ≠ gb312)); have n7_ := Aside0.mk ((by rw [hg]; exact Nat.ne_of_gt (blk_lt (g := gb306) (o := .cells #[.int .i64 a1_0, .int .i64 a1_1, .int .i64 a1_2, .int .i64 a1_3, .int .i64 a1_4, .int .i64 a1_5, .int .i64 a1_6, .int .i64 a1_7] 49 (0, 0)) (by (with_reducible repeat (first | refine blk_drewN ?_ _ | refine blk_drew ?_ | refine blk_alloc ?_ _)); exact BK306.out)) : gb312 ≠ gb306)); clear HO_5; clear BK306; clear HB; have HO_5 := n0_; have BK306 := n1_; have HB := n2_; have BK312 := n3_; have GW312 := n4_; have GE312 := n5_; have NB306_312 := n6_; have NB312_306 := n7_; clear n0_ n1_ n2_ n3_ n4_ n5_ n6_ n7_; clear hb hbox hg; have hnb22 := NB312_306.out; have hnc22 := NB306_312.out; have hcz23_0 : w21.cell? ⟨gb312, 0, none⟩ = some (.int .i64 0) := (blk_cell BK312.out 0).trans rfl; have hcz23_1 : w21.cell? ⟨gb312, 1, none⟩ = some (.int .i64 0) := (blk_cell BK312.out 1).trans rfl; have hcz23_2 : w21.cell? ⟨gb312, 2, none⟩ = some (.int .i64 0) := (blk_cell BK312.out 2).trans rfl; have hcz23_3 : w21.cell? ⟨gb312, 3, none⟩ = some (.int .i64 0) := (blk_cell BK312.out 3).trans rfl; have hcz23_4 : w21.cell? ⟨gb312, 4, none⟩ = some (.int .i64 0) := (blk_cell BK312.out 4).trans rfl; have hcz23_5 : w21.cell? ⟨gb312, 5, none⟩ = some (.int .i64 0) := (blk_cell BK312.out 5).trans rfl; have hcz23_6 : w21.cell? ⟨gb312, 6, none⟩ = some (.bool false) := (blk_cell BK312.out 6).trans rfl; have hfz23_0 := blk_frozen BK312.out 0; have hfz23_1 := blk_frozen BK312.out 1; have hfz23_2 := blk_frozen BK312.out 2; have hfz23_3 := blk_frozen BK312.out 3; have hfz23_4 := blk_frozen BK312.out 4; have hfz23_5 := blk_frozen BK312.out 5; have hfz23_6 := blk_frozen BK312.out 6) | ((with_reducible refine gate_builtin (b := .append) (xs := #[.tmp 39, .tmp 41]) rfl ?_); (try (refine gate_guard (by rfl) ?_; dsimp only)); at_builtin; refine Kd.R_append (Kd.int .i64) (w0 := w) w.heap.size rfl (.tmp 39) (.tmp 41) 22 3 (.int .i64 0) 8 rfl Try.underlying22 info3 rfl (by decide) (by omega) u5 x5_2 x6_2 [.int .i64 x6_2] (fun _ => True) (fun _ => False) rfl (by first | (go_simp; done) | (go_simp; rfl)) ?aP (fun _ hk => hk.elim) ?aF ?aO ?aB ?aS ?aL ?_; (case aP => exact rfl); (case aB => exact (by repeat (first | (with_reducible first | exact HB.out | apply below_alloc | apply pw_below_drewN | apply below_drew1 | refine below_set ?_ GE306.out | refine below_set ?_ GE312.out) | exact HB.out))); (case aF => exact (fun _ _ => trivial)); (case aO => exact (by (with_reducible repeat (first | apply Kd.R_alloc | apply Kd.R_drewN | apply Kd.R_drew)); exact Kd.R_mono (Kd.R_far (p := ⟨gb312, 6, none⟩) (Kd.R_far (p := ⟨gb312, 5, none⟩) (Kd.R_far (p := ⟨gb312, 4, none⟩) (Kd.R_far (p := ⟨gb312, 3, none⟩) (Kd.R_far (p := ⟨gb312, 2, none⟩) (Kd.R_far (p := ⟨gb312, 1, none⟩) (Kd.R_far (p := ⟨gb312, 0, none⟩) (Kd.R_types HO_5.out BK312.out (by decide)) (fun _ hk => hk.2) (.int .i64 ((rd_T69 y307 x35_2).f0))) (fun _ hk => hk.2) (.int .i64 ((rd_T69 y307 x35_2).f1))) (fun _ hk => hk.2) (.int .i64 ((rd_T69 y307 x35_2).f2))) (fun _ hk => hk.2) (.int .i64 ((rd_T69 y307 x35_2).f3))) (fun _ hk => hk.2) (.int .i64 ((rd_T69 y307 x35_2).f4))) (fun _ hk => hk.2) (.int .i64 ((rd_T69 y307 x35_2).f5))) (fun _ hk => hk.2) (.bool ((rd_T69 y307 x35_2).f6))) (fun _ hk => trivial))); (case aS => exact (below_size (by repeat (first | (with_reducible first | exact HB.out | apply below_alloc | apply pw_below_drewN | apply below_drew1 | refine below_set ?_ GE306.out | refine below_set ?_ GE312.out) | exact HB.out)))); (case aL => have := LMc19.out; omega); intro v314 w24 ho hb hg hat; rw [← Ny313.out] at ho; have n0_ := Aside0.mk (blk_grown (g := gb306) (o := .cells #[.int .i64 a1_0, .int .i64 a1_1, .int .i64 a1_2, .int .i64 a1_3, .int .i64 a1_4, .int .i64 a1_5, .int .i64 a1_6, .int .i64 a1_7] 49 (0, 0)) (by (with_reducible repeat (first | refine blk_drewN ?_ _ | refine blk_drew ?_ | refine blk_alloc ?_ _)); refine blk_far ?_ NB306_312.out _; (with_reducible repeat (first | refine blk_drewN ?_ _ | refine blk_drew ?_ | refine blk_alloc ?_ _)); refine blk_far ?_ NB306_312.out _; (with_reducible repeat (first | refine blk_drewN ?_ _ | refine blk_drew ?_ | refine blk_alloc ?_ _)); refine blk_far ?_ NB306_312.out _; (with_reducible repeat (first | refine blk_drewN ?_ _ | refine blk_drew ?_ | refine blk_alloc ?_ _)); refine blk_far ?_ NB306_312.out _; (with_reducible repeat (first | refine blk_drewN ?_ _ | refine blk_drew ?_ | refine blk_alloc ?_ _)); refine blk_far ?_ NB306_312.out _; (with_reducible repeat (first | refine blk_drewN ?_ _ | refine blk_drew ?_ | refine blk_alloc ?_ _)); refine blk_far ?_ NB306_312.out _; (with_reducible repeat (first | refine blk_drewN ?_ _ | refine blk_drew ?_ | refine blk_alloc ?_ _)); refine blk_far ?_ NB306_312.out _; (with_reducible repeat (first | refine blk_drewN ?_ _ | refine blk_drew ?_ | refine blk_alloc ?_ _)); exact BK306.out) hg (Kd.R_ne HO_5.out BK306.out (by decide))); have n1_ := Aside0.mk (blk_grown (g := gb312) (o := .cells #[.int .i64 ((rd_T69 y307 x35_2).f0), .int .i64 ((rd_T69 y307 x35_2).f1), .int .i64 ((rd_T69 y307 x35_2).f2), .int .i64 ((rd_T69 y307 x35_2).f3), .int .i64 ((rd_T69 y307 x35_2).f4), .int .i64 ((rd_T69 y307 x35_2).f5), .bool ((rd_T69 y307 x35_2).f6)] 69 (0, 0)) (by (with_reducible repeat (first | refine blk_drewN ?_ _ | refine blk_drew ?_ | refine blk_alloc ?_ _)); refine blk_put (cs := #[.int .i64 ((rd_T69 y307 x35_2).f0), .int .i64 ((rd_T69 y307 x35_2).f1), .int .i64 ((rd_T69 y307 x35_2).f2), .int .i64 ((rd_T69 y307 x35_2).f3), .int .i64 ((rd_T69 y307 x35_2).f4), .int .i64 ((rd_T69 y307 x35_2).f5), .bool false]) ?_ 6 _ rfl; (with_reducible repeat (first | refine blk_drewN ?_ _ | refine blk_drew ?_ | refine blk_alloc ?_ _)); refine blk_put (cs := #[.int .i64 ((rd_T69 y307 x35_2).f0), .int .i64 ((rd_T69 y307 x35_2).f1), .int .i64 ((rd_T69 y307 x35_2).f2), .int .i64 ((rd_T69 y307 x35_2).f3), .int .i64 ((rd_T69 y307 x35_2).f4), .int .i64 0, .bool false]) ?_ 5 _ rfl; (with_reducible repeat (first | refine blk_drewN ?_ _ | refine blk_drew ?_ | refine blk_alloc ?_ _)); refine blk_put (cs := #[.int .i64 ((rd_T69 y307 x35_2).f0), .int .i64 ((rd_T69 y307 x35_2).f1), .int .i64 ((rd_T69 y307 x35_2).f2), .int .i64 ((rd_T69 y307 x35_2).f3), .int .i64 0, .int .i64 0, .bool false]) ?_ 4 _ rfl; (with_reducible repeat (first | refine blk_drewN ?_ _ | refine blk_drew ?_ | refine blk_alloc ?_ _)); refine blk_put (cs := #[.int .i64 ((rd_T69 y307 x35_2).f0), .int .i64 ((rd_T69 y307 x35_2).f1), .int .i64 ((rd_T69 y307 x35_2).f2), .int .i64 0, .int .i64 0, .int .i64 0, .bool false]) ?_ 3 _ rfl; (with_reducible repeat (first | refine blk_drewN ?_ _ | refine blk_drew ?_ | refine blk_alloc ?_ _)); refine blk_put (cs := #[.int .i64 ((rd_T69 y307 x35_2).f0), .int .i64 ((rd_T69 y307 x35_2).f1), .int .i64 0, .int .i64 0, .int .i64 0, .int .i64 0, .bool false]) ?_ 2 _ rfl; (with_reducible repeat (first | refine blk_drewN ?_ _ | refine blk_drew ?_ | refine blk_alloc ?_ _)); refine blk_put (cs := #[.int .i64 ((rd_T69 y307 x35_2).f0), .int .i64 0, .int .i64 0, .int .i64 0, .int .i64 0, .int .i64 0, .bool false]) ?_ 1 _ rfl; (with_reducible repeat (first | refine blk_drewN ?_ _ | refine blk_drew ?_ | refine blk_alloc ?_ _)); refine blk_put (cs := #[.int .i64 0, .int .i64 0, .int .i64 0, .int .i64 0, .int .i64 0, .int .i64 0, .bool false]) ?_ 0 _ rfl; (with_reducible repeat (first | refine blk_drewN ?_ _ | refine blk_drew ?_ | refine blk_alloc ?_ _)); exact BK312.out) hg (Kd.R_ne HO_5.out BK312.out (by decide))); have n2_ := Aside0.mk (hb); have n3_ := Aside0.mk (ho); clear BK306; clear BK312; clear HB; clear HO_5; have BK306 := n0_; have BK312 := n1_; have HB := n2_; have HO315 := n3_; clear n0_ n1_ n2_ n3_; clear ho hb hg hat; have hcz25_0 : w24.cell? ⟨gb312, 0, none⟩ = some (.int .i64 ((rd_T69 y307 x35_2).f0)) := (blk_cell BK312.out 0).trans rfl; have hcz25_1 : w24.cell? ⟨gb312, 1, none⟩ = some (.int .i64 ((rd_T69 y307 x35_2).f1)) := (blk_cell BK312.out 1).trans rfl; have hcz25_2 : w24.cell? ⟨gb312, 2, none⟩ = some (.int .i64 ((rd_T69 y307 x35_2).f2)) := (blk_cell BK312.out 2).trans rfl; have hcz25_3 : w24.cell? ⟨gb312, 3, none⟩ = some (.int .i64 ((rd_T69 y307 x35_2).f3)) := (blk_cell BK312.out 3).trans rfl; have hcz25_4 : w24.cell? ⟨gb312, 4, none⟩ = some (.int .i64 ((rd_T69 y307 x35_2).f4)) := (blk_cell BK312.out 4).trans rfl; have hcz25_5 : w24.cell? ⟨gb312, 5, none⟩ = some (.int .i64 ((rd_T69 y307 x35_2).f5)) := (blk_cell BK312.out 5).trans rfl; have hcz25_6 : w24.cell? ⟨gb312, 6, none⟩ = some (.bool ((rd_T69 y307 x35_2).f6)) := (blk_cell BK312.out 6).trans rfl; have hfz25_0 := blk_frozen BK312.out 0; have hfz25_1 := blk_frozen BK312.out 1; have hfz25_2 := blk_frozen BK312.out 2; have hfz25_3 := blk_frozen BK312.out 3; have hfz25_4 := blk_frozen BK312.out 4; have hfz25_5 := blk_frozen BK312.out 5; have hfz25_6 := blk_frozen BK312.out 6) | ((with_reducible refine gate_callee (f := 35) rfl ?_); refine goesL_ (some 45) rfl rfl Try.func35 (by kernel_rfl) rfl #[.agg #[.int .i64 ((rd_T69 y307 x35_2).f0), .int .i64 ((rd_T69 y307 x35_2).f1), .int .i64 ((rd_T69 y307 x35_2).f2), .int .i64 ((rd_T69 y307 x35_2).f3), .int .i64 ((rd_T69 y307 x35_2).f4), .int .i64 ((rd_T69 y307 x35_2).f5), .bool ((rd_T69 y307 x35_2).f6)]] rfl (by (try simp only [List.map_toArray, List.map_cons, List.map_nil]); first | done | rfl | (simp only [List.length_drop, List.length_take]; rfl)) ?_; (with_reducible refine (ruby_reach.calls ((rd_T69 y307 x35_2).f0) ((rd_T69 y307 x35_2).f1) ((rd_T69 y307 x35_2).f2) ((rd_T69 y307 x35_2).f3) ((rd_T69 y307 x35_2).f4) ((rd_T69 y307 x35_2).f5) ((rd_T69 y307 x35_2).f6) t316 _ A20.out).mono ?_); rintro e w26 ⟨rfl, hb⟩; refine ⟨_, rfl, ?_⟩; have n0_ := Aside0.mk (Kd.R_below (by (with_reducible repeat (first | apply Kd.R_alloc | apply Kd.R_drewN | apply Kd.R_drew)); exact HO315.out) hb); have n1_ := Aside0.mk (blk_below (g := gb306) (o := .cells #[.int .i64 a1_0, .int .i64 a1_1, .int .i64 a1_2, .int .i64 a1_3, .int .i64 a1_4, .int .i64 a1_5, .int .i64 a1_6, .int .i64 a1_7] 49 (0, 0)) (by (with_reducible repeat (first | refine blk_drewN ?_ _ | refine blk_drew ?_ | refine blk_alloc ?_ _)); exact BK306.out) hb); have n2_ := Aside0.mk (blk_below (g := gb312) (o := .cells #[.int .i64 ((rd_T69 y307 x35_2).f0), .int .i64 ((rd_T69 y307 x35_2).f1), .int .i64 ((rd_T69 y307 x35_2).f2), .int .i64 ((rd_T69 y307 x35_2).f3), .int .i64 ((rd_T69 y307 x35_2).f4), .int .i64 ((rd_T69 y307 x35_2).f5), .bool ((rd_T69 y307 x35_2).f6)] 69 (0, 0)) (by (with_reducible repeat (first | refine blk_drewN ?_ _ | refine blk_drew ?_ | refine blk_alloc ?_ _)); exact BK312.out) hb); have n3_ := Aside0.mk (below_step (by repeat (first | (with_reducible first | exact HB.out | apply below_alloc | apply pw_below_drewN | apply below_drew1 | refine below_set ?_ GE306.out | refine below_set ?_ GE312.out) | exact HB.out)) hb); clear HO315; clear BK306; clear BK312; clear HB; have HO315 := n0_; have BK306 := n1_; have BK312 := n2_; have HB := n3_; clear n0_ n1_ n2_ n3_; (try clear hb); (try clear hb2); (try clear hk); (try clear hi)))
                          go_roundg k2
                          case measure => have := HJ2.out; have := HK2.out; omega
                          case rel => exact ⟨(y313), (wrap64 (x6_2 + t316)), (wrap64 (x35_2 + 1)), (by first | rfl | (simp; done) | (simp [*]; done)), (by first | rfl | (simp; done) | (simp [*]; done)), H', ⟨by have := HJ2.out; have := HK2.out; omega⟩, ⟨by (with_reducible repeat (first | apply Kd.R_alloc | apply Kd.R_drewN | apply Kd.R_drew)); exact HO315.out⟩, ⟨by (with_reducible repeat (first | refine blk_drewN ?_ _ | refine blk_drew ?_ | refine blk_alloc ?_ _)); exact BK306.out⟩, ⟨by repeat (first | (with_reducible first | exact HB.out | apply below_alloc | apply pw_below_drewN | apply below_drew1 | refine below_set ?_ GE306.out | refine below_set ?_ GE312.out) | exact HB.out)⟩⟩
                        · rw [if_neg c19] at H
                          exact absurd H (by simp)
                      · rw [if_neg c18] at H
                        exact absurd H (by simp)
                    · rw [if_neg c17] at H
                      exact absurd H (by simp)
                  · rw [if_neg c16] at H
                    have c16b0 : decide (x35_2 < (y307.length : Int)) = false := decide_eq_false c16
                    clear c16
                    obtain rfl := Option.some.inj H
                    go_wp2
                    go_ret
                    exact ⟨_, by first | rfl | (simp [errW_none, errW_some] <;> rfl) | (simp [*, errW_none, errW_some] <;> rfl), by (with_reducible repeat (first | apply Kd.R_alloc | apply Kd.R_drewN | apply Kd.R_drew)); exact HO_5.out, by repeat (first | (with_reducible first | exact HB.out | apply below_alloc | apply pw_below_drewN | apply below_drew1 | refine below_set ?_ GE306.out) | exact HB.out)⟩
            · rw [if_neg c13] at H
              exact absurd H (by simp)
          · rw [if_neg c12] at H
            exact absurd H (by simp)
        · rw [if_neg c11] at H
          exact absurd H (by simp)

end Go.Proofs.Ytijikaihmaganaa.P
