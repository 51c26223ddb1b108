/- Written by wip/tools/gprint.py of this repo over the translation: Lean functions that answer as the Go functions named below do, and the proof of it; the conditions stand in each theorem. -/
import Derived.Test.YtfpaagilejdghaaP0
import Derived.Test.YtfpaagilejdghaaP2
import Derived.Test.YtfpaagilejdghaaP4
import Derived.Test.YtfpaagilejdghaaP5
import Derived.Test.YtfpaagilejdghaaP7
import Derived.Test.YtfpaagilejdghaaP8
import Derived.Test.YtfpaagilejdghaaP9
import Derived.Test.YtfpaagilejdghaaP10
import Derived.Test.YtfpaagilejdghaaP11
namespace Go.Proofs.Ytfpaagilejdghaa.P
open Go.RowKit Go.Proofs.YtfpaagilejdghaaW.PrintWords Go.Proofs.YtfpaagilejdghaaW.PrintLast Go.Proofs.YtfpaagilejdghaaW.PrintMore
attribute [local go_sem] max2_int min2_int max_two min_two max_three min_three max_four min_four   -- for this text's walks alone
set_option linter.unusedVariables false
set_option linter.unusedSimpArgs false

/-! ### frisketlaw15_UprightTells: function 3 -/
def frisketlaw15_UprightTells.f (k : Nat) (a0_0 : Int) (a0_1 : Bool) (a0_2 : Bool) (a0_3 : Int) (a1 : Int) (a2 : Int) : Option (Bool) := (frisketlaw15_alive.f k).bind fun t137 => (if t137 = true then ((frisketlaw15_of.f a0_0 a0_1 a0_2 a0_3).bind fun bt138 => ((upright_Way.f k bt138.1 bt138.2.1 bt138.2.2.1 bt138.2.2.2 a1 a2).bind fun t142 => ((frisketref15_Way.f k a0_0 a0_1 a0_2 a0_3 a1 a2).bind fun t143 => (if t142 = t143 then ((frisketlaw15_of.f a0_0 a0_1 a0_2 a0_3).bind fun bt144 => ((upright_Reach.f k bt144.1 bt144.2.1 bt144.2.2.1 bt144.2.2.2 a1 a2).bind fun t148 => ((frisketref15_Reach.f k a0_0 a0_1 a0_2 a0_3 a1 a2).bind fun t149 => (if t148 = t149 then ((upright_Columns.f a2).bind fun t150 => ((frisketref15_Columns.f a2).bind fun t151 => (some (t150 == t151)))) else (some false))))) else (some false))))) else (some false))
theorem frisketlaw15_UprightTells.mono : ∀ a0 a1 a2 a3 a4 a5 k, LeO (frisketlaw15_UprightTells.f k a0 a1 a2 a3 a4 a5) (frisketlaw15_UprightTells.f (k + 1) a0 a1 a2 a3 a4 a5) := by
  intro a0 a1 a2 a3 a4 a5 k
  unfold frisketlaw15_UprightTells.f
  repeat' first
      | (with_reducible exact frisketlaw15_alive.mono _)
      | (with_reducible exact frisketref15_Reach.mono _ _ _ _ _ _ _)
      | (with_reducible exact frisketref15_Way.mono _ _ _ _ _ _ _)
      | (with_reducible exact upright_Reach.mono _ _ _ _ _ _ _)
      | (with_reducible exact upright_Way.mono _ _ _ _ _ _ _)
      | (with_reducible exact LeO.refl _)
      | (with_reducible exact LeO.none _)
      | (with_reducible refine LeO.ite ?_ ?_)
      | (with_reducible refine LeO.bind ?_ (fun _ => ?_))
      | exact frisketlaw15_alive.mono _
      | exact frisketref15_Reach.mono _ _ _ _ _ _ _
      | exact frisketref15_Way.mono _ _ _ _ _ _ _
      | exact upright_Reach.mono _ _ _ _ _ _ _
      | exact upright_Way.mono _ _ _ _ _ _ _
      | exact LeO.none _
      | refine LeO.ite ?_ ?_
      | refine LeO.bind ?_ (fun _ => ?_)
def frisketlaw15_UprightTells.T1 : Bool × List (List Nat × List Nat) := (true, [([], []), ([0, 0], [0]), ([1], [1]), ([2, 1, 1], [1, 2]), ([1], [1]), ([1], [1]), ([3, 4, 5, 3, 1], [1, 3, 4, 5]), ([1], [1]), ([1], [1]), ([1], [1]), ([7, 8, 9, 6, 1], [1, 7, 8, 9]), ([6, 10, 1], [1, 6, 10]), ([1, 11], [1, 11]), ([12, 10], [12]), ([13], [13]), ([14, 13, 13], [13, 14]), ([13], [13]), ([13], [13]), ([15, 16, 17, 15, 13], [13, 15, 16, 17]), ([13], [13]), ([13], [13]), ([13], [13]), ([19, 20, 21, 18, 13], [13, 19, 20, 21]), ([18, 22, 13], [13, 18, 22]), ([13, 23], [13, 23]), ([24, 22], [24]), ([25], [25]), ([26, 25, 25], [25, 26]), ([25], [25]), ([28, 27, 25], [25, 28]), ([27, 29, 25], [25, 27, 29]), ([25, 30], [25, 30]), ([31, 29, 0, 1, 2, 3, 4, 5, 6, 7, 8, 9, 10, 11, 12, 13, 14, 15, 16, 17, 18, 19, 20, 21, 22, 23, 24, 25, 26, 27, 28, 29, 30, 31], [31])])
def frisketlaw15_UprightTells.B1 : List Nat := [0, 1, 3, 7, 3, 3, 63, 3, 3, 3, 1023, 2047, 4095, 8191, 16383, 32767, 16383, 16383, 262143, 16383, 16383, 16383, 4194303, 8388607, 16777215, 33554431, 67108863, 134217727, 67108863, 536870911, 1073741823, 2147483647, 4294967295]
theorem frisketlaw15_UprightTells.tab1 : rtab .any (opsOf Try.f3 1) = frisketlaw15_UprightTells.T1 := by kernel_rfl
theorem frisketlaw15_UprightTells.bits1 : waitsOk frisketlaw15_UprightTells.T1.2 frisketlaw15_UprightTells.B1 = true := by kernel_rfl
set_option maxHeartbeats 8000000 in
set_option maxRecDepth 100000 in
theorem frisketlaw15_UprightTells.calls (k : Nat) (a0_0 : Int) (a0_1 : Bool) (a0_2 : Bool) (a0_3 : Int) (a1 : Int) (a2 : Int) (r : Bool) (w : World) (hrt : r = true) (h : frisketlaw15_UprightTells.f k a0_0 a0_1 a0_2 a0_3 a1 a2 = some r) :
    Calls Try.prog 3 #[.agg #[.int .i64 a0_0, .bool a0_1, .bool a0_2, .int .i64 a0_3], .int .i64 a1, .int .i64 a2] w fun e w' => e = .returned (.bool r) ∧ Below w.heap.size w w' := by
  have hu24 := Try.underlying24
  have HB := Aside0.mk (Below.refl w.heap.size w)
  have HRT := Aside0.mk hrt
  clear hrt
  have H : ((frisketlaw15_alive.f k).bind fun t137 => (if t137 = true then ((frisketlaw15_of.f a0_0 a0_1 a0_2 a0_3).bind fun bt138 => ((upright_Way.f k bt138.1 bt138.2.1 bt138.2.2.1 bt138.2.2.2 a1 a2).bind fun t142 => ((frisketref15_Way.f k a0_0 a0_1 a0_2 a0_3 a1 a2).bind fun t143 => (if t142 = t143 then ((frisketlaw15_of.f a0_0 a0_1 a0_2 a0_3).bind fun bt144 => ((upright_Reach.f k bt144.1 bt144.2.1 bt144.2.2.1 bt144.2.2.2 a1 a2).bind fun t148 => ((frisketref15_Reach.f k a0_0 a0_1 a0_2 a0_3 a1 a2).bind fun t149 => (if t148 = t149 then ((upright_Columns.f a2).bind fun t150 => ((frisketref15_Columns.f a2).bind fun t151 => (some (t150 == t151)))) else (some false))))) else (some false))))) else (some false))) = some r := h
  clear h
  replace H := Option.bind_eq_some_iff.mp H
  obtain ⟨t137, A40, H⟩ := H
  replace H : (if t137 = true then ((frisketlaw15_of.f a0_0 a0_1 a0_2 a0_3).bind fun bt138 => ((upright_Way.f k bt138.1 bt138.2.1 bt138.2.2.1 bt138.2.2.2 a1 a2).bind fun t142 => ((frisketref15_Way.f k a0_0 a0_1 a0_2 a0_3 a1 a2).bind fun t143 => (if t142 = t143 then ((frisketlaw15_of.f a0_0 a0_1 a0_2 a0_3).bind fun bt144 => ((upright_Reach.f k bt144.1 bt144.2.1 bt144.2.2.1 bt144.2.2.2 a1 a2).bind fun t148 => ((frisketref15_Reach.f k a0_0 a0_1 a0_2 a0_3 a1 a2).bind fun t149 => (if t148 = t149 then ((upright_Columns.f a2).bind fun t150 => ((frisketref15_Columns.f a2).bind fun t151 => (some (t150 == t151)))) else (some false))))) else (some false))))) else (some false)) = some r := H
  have A4 := Aside0.mk A40
  clear A40
  by_cases c5 : t137 = true
  · subst c5
    have H1 : ((frisketlaw15_of.f a0_0 a0_1 a0_2 a0_3).bind fun bt138 => ((upright_Way.f k bt138.1 bt138.2.1 bt138.2.2.1 bt138.2.2.2 a1 a2).bind fun t142 => ((frisketref15_Way.f k a0_0 a0_1 a0_2 a0_3 a1 a2).bind fun t143 => (if t142 = t143 then ((frisketlaw15_of.f a0_0 a0_1 a0_2 a0_3).bind fun bt144 => ((upright_Reach.f k bt144.1 bt144.2.1 bt144.2.2.1 bt144.2.2.2 a1 a2).bind fun t148 => ((frisketref15_Reach.f k a0_0 a0_1 a0_2 a0_3 a1 a2).bind fun t149 => (if t148 = t149 then ((upright_Columns.f a2).bind fun t150 => ((frisketref15_Columns.f a2).bind fun t151 => (some (t150 == t151)))) else (some false))))) else (some false))))) = some r := by rw [if_pos rfl] at H; exact H
    clear H
    have H := H1
    clear H1
    replace H := Option.bind_eq_some_iff.mp H
    obtain ⟨⟨t138, t139, t140, t141⟩, A60, H⟩ := H
    replace H : ((upright_Way.f k t138 t139 t140 t141 a1 a2).bind fun t142 => ((frisketref15_Way.f k a0_0 a0_1 a0_2 a0_3 a1 a2).bind fun t143 => (if t142 = t143 then ((frisketlaw15_of.f a0_0 a0_1 a0_2 a0_3).bind fun bt144 => ((upright_Reach.f k bt144.1 bt144.2.1 bt144.2.2.1 bt144.2.2.2 a1 a2).bind fun t148 => ((frisketref15_Reach.f k a0_0 a0_1 a0_2 a0_3 a1 a2).bind fun t149 => (if t148 = t149 then ((upright_Columns.f a2).bind fun t150 => ((frisketref15_Columns.f a2).bind fun t151 => (some (t150 == t151)))) else (some false))))) else (some false)))) = some r := H
    have A6 := Aside0.mk A60
    clear A60
    replace H := Option.bind_eq_some_iff.mp H
    obtain ⟨t142, A70, H⟩ := H
    replace H : ((frisketref15_Way.f k a0_0 a0_1 a0_2 a0_3 a1 a2).bind fun t143 => (if t142 = t143 then ((frisketlaw15_of.f a0_0 a0_1 a0_2 a0_3).bind fun bt144 => ((upright_Reach.f k bt144.1 bt144.2.1 bt144.2.2.1 bt144.2.2.2 a1 a2).bind fun t148 => ((frisketref15_Reach.f k a0_0 a0_1 a0_2 a0_3 a1 a2).bind fun t149 => (if t148 = t149 then ((upright_Columns.f a2).bind fun t150 => ((frisketref15_Columns.f a2).bind fun t151 => (some (t150 == t151)))) else (some false))))) else (some false))) = some r := H
    have A7 := Aside0.mk A70
    clear A70
    replace H := Option.bind_eq_some_iff.mp H
    obtain ⟨t143, A80, H⟩ := H
    replace H : (if t142 = t143 then ((frisketlaw15_of.f a0_0 a0_1 a0_2 a0_3).bind fun bt144 => ((upright_Reach.f k bt144.1 bt144.2.1 bt144.2.2.1 bt144.2.2.2 a1 a2).bind fun t148 => ((frisketref15_Reach.f k a0_0 a0_1 a0_2 a0_3 a1 a2).bind fun t149 => (if t148 = t149 then ((upright_Columns.f a2).bind fun t150 => ((frisketref15_Columns.f a2).bind fun t151 => (some (t150 == t151)))) else (some false))))) else (some false)) = some r := H
    have A8 := Aside0.mk A80
    clear A80
    by_cases c9 : t142 = t143
    · rw [if_pos c9] at H
      have c9b0 : (t142 == t143) = true := beq_iff_eq.mpr c9
      have c9b1 : (t142 != t143) = false := bne_eq_false_iff_eq.mpr c9
      clear c9
      replace H := Option.bind_eq_some_iff.mp H
      obtain ⟨⟨t144, t145, t146, t147⟩, A100, H⟩ := H
      replace H : ((upright_Reach.f k t144 t145 t146 t147 a1 a2).bind fun t148 => ((frisketref15_Reach.f k a0_0 a0_1 a0_2 a0_3 a1 a2).bind fun t149 => (if t148 = t149 then ((upright_Columns.f a2).bind fun t150 => ((frisketref15_Columns.f a2).bind fun t151 => (some (t150 == t151)))) else (some false)))) = some r := H
      have A10 := Aside0.mk A100
      clear A100
      replace H := Option.bind_eq_some_iff.mp H
      obtain ⟨t148, A110, H⟩ := H
      replace H : ((frisketref15_Reach.f k a0_0 a0_1 a0_2 a0_3 a1 a2).bind fun t149 => (if t148 = t149 then ((upright_Columns.f a2).bind fun t150 => ((frisketref15_Columns.f a2).bind fun t151 => (some (t150 == t151)))) else (some false))) = some r := H
      have A11 := Aside0.mk A110
      clear A110
      replace H := Option.bind_eq_some_iff.mp H
      obtain ⟨t149, A120, H⟩ := H
      replace H : (if t148 = t149 then ((upright_Columns.f a2).bind fun t150 => ((frisketref15_Columns.f a2).bind fun t151 => (some (t150 == t151)))) else (some false)) = some r := H
      have A12 := Aside0.mk A120
      clear A120
      by_cases c13 : t148 = t149
      · rw [if_pos c13] at H
        have c13b0 : (t148 == t149) = true := beq_iff_eq.mpr c13
        have c13b1 : (t148 != t149) = false := bne_eq_false_iff_eq.mpr c13
        clear c13
        replace H := Option.bind_eq_some_iff.mp H
        obtain ⟨t150, A140, H⟩ := H
        replace H : ((frisketref15_Columns.f a2).bind fun t151 => (some (t150 == t151))) = some r := H
        have A14 := Aside0.mk A140
        clear A140
        replace H := Option.bind_eq_some_iff.mp H
        obtain ⟨t151, A150, H⟩ := H
        replace H : (some (t150 == t151)) = some r := H
        have A15 := Aside0.mk A150
        clear A150
        obtain rfl := Option.some.inj H
        go_enter Try.func3, Try.ntmps3
        try go_wp2_with (first | ((with_reducible refine gate_dst (N := 3) rfl ?_); refine box_event ?hg (N := 3) ?hd (cs := #[.int .i64 a0_0, .bool a0_1, .bool a0_2, .int .i64 a0_3]) (t := 24) ?hr ?_; (case hd => rfl); (case hg => rfl); (case hr => first | (go_simp; done) | (go_simp; rfl)); intro gb136 hg w16 hbox hb; have n0_ := Aside0.mk (below_step (by repeat (first | (with_reducible first | exact HB.out | apply below_alloc | apply pw_below_drewN | apply below_drew1) | exact HB.out)) hb); have n1_ := Aside0.mk (hbox); have n2_ := Aside0.mk ((by rw [hg]; exact (below_size (by repeat (first | (with_reducible first | exact HB.out | apply below_alloc | apply pw_below_drewN | apply below_drew1) | exact HB.out))) : w.heap.size ≤ gb136)); have n3_ := Aside0.mk ((by rw [hg]; exact (below_size (by repeat (first | (with_reducible first | exact HB.out | apply below_alloc | apply pw_below_drewN | apply below_drew1) | exact HB.out))) : w.heap.size ≤ gb136)); clear HB; have HB := n0_; have BK136 := n1_; have GW136 := n2_; have GE136 := n3_; clear n0_ n1_ n2_ n3_; clear hb hbox hg))
        have n0_ := Aside0.mk (blk_drew BK136.out)
        have n1_ := Aside0.mk (below_drew1 HB.out)
        clear BK136
        clear HB
        have BK136 := n0_
        have HB := n1_
        clear n0_ n1_
        refine start_ (n := 33) (S := fun w' => w'.cell? ⟨gb136, 0, none⟩ = some (.int .i64 a0_0) ∧ w'.cell? ⟨gb136, 1, none⟩ = some (.bool a0_1) ∧ w'.cell? ⟨gb136, 2, none⟩ = some (.bool a0_2) ∧ w'.cell? ⟨gb136, 3, none⟩ = some (.int .i64 a0_3)) (ds := []) #[false, false, false, false, false, false, false, false, false, false, false, false, false, false, false, false, false, false, false, false, false, false, false, false, false, false, false, false, false, false, false, false, false] (by kernel_rfl) rfl rfl ⟨(blk_cell BK136.out 0).trans rfl, (blk_cell BK136.out 1).trans rfl, (blk_cell BK136.out 2).trans rfl, (blk_cell BK136.out 3).trans rfl⟩ (fun hHeld => ?_); refine with_tabW frisketlaw15_UprightTells.tab1 frisketlaw15_UprightTells.bits1 (fun HT_ HW_ => ?_)
        generalize w16.drew = w17 at BK136 HB hHeld ⊢
        refine one_ (i := 0) (N := some 7) #[true, false, false, false, false, false, false, false, false, false, false, false, false, false, false, false, false, false, false, false, false, false, false, false, false, false, false, false, false, false, false, false, false] rfl rfl (one_of HT_.out (by kernel_rfl)) (by decide) (fun K hK => ?_)
        refine goes_ Try.func7 (by kernel_rfl) rfl #[] (by rfl) rfl rfl (by (try simp only [List.map_toArray, List.map_cons, List.map_nil]); first | done | rfl | (simp only [List.length_drop, List.length_take]; rfl)) ?_
        with_reducible refine (frisketlaw15_alive.calls k  true _ A4.out).mono ?_
        rintro e w18 ⟨rfl, hb⟩
        refine ⟨_, rfl, ?_⟩
        have n0_ := Aside0.mk (blk_below (g := gb136) (o := .cells #[.int .i64 a0_0, .bool a0_1, .bool a0_2, .int .i64 a0_3] 24 (0, 0)) (by (with_reducible repeat (first | refine blk_drewN ?_ _ | refine blk_drew ?_ | refine blk_alloc ?_ _)); exact BK136.out) hb)
        have n1_ := Aside0.mk (below_step (by repeat (first | (with_reducible first | exact HB.out | apply below_alloc | apply pw_below_drewN | apply below_drew1 | refine below_set ?_ GE136.out) | exact HB.out)) hb)
        clear BK136
        clear HB
        have BK136 := n0_
        have HB := n1_
        clear n0_ n1_
        (try clear hb)
        (try clear hb2)
        (try clear hk)
        (try clear hi)
        refine hK.out _ _ ⟨(blk_cell BK136.out 0).trans rfl, (blk_cell BK136.out 1).trans rfl, (blk_cell BK136.out 2).trans rfl, (blk_cell BK136.out 3).trans rfl⟩ (fun hHeld => ?_)
        clear hK K
        refine norm_ (a' := ?_) ?_ ?_
        rotate_left
        · show Act.put _ (some 7) _ = _
          simp only [Act.put, List.setIfInBounds_toArray, List.set_cons_zero, List.set_cons_succ, i64_w, i32_w]
          rfl
        refine pure_ (i := 1) (N := some 8) (v := ?_) (a' := ?_) #[true, true, false, false, false, false, false, false, false, false, false, false, false, false, false, false, false, false, false, false, false, false, false, false, false, false, false, false, false, false, false, false, false] rfl rfl (any_of HT_.out (by kernel_rfl)) (fun _ _ _ h => h) (Or.inl ⟨by rfl, ?_⟩) ?_ ?_
        rotate_left
        · intro w'
          go_simp
          with_reducible rfl
        rotate_left
        · simp only [Act.put, List.setIfInBounds_toArray, List.set_cons_zero, List.set_cons_succ, i64_w, i32_w]
          rfl
        refine pure_ (i := 4) (N := some 11) (v := ?_) (a' := ?_) #[true, true, false, false, true, false, false, false, false, false, false, false, false, false, false, false, false, false, false, false, false, false, false, false, false, false, false, false, false, false, false, false, false] rfl rfl (any_of HT_.out (by kernel_rfl)) (fun _ _ _ h => h) (Or.inl ⟨by rfl, ?_⟩) ?_ ?_
        rotate_left
        · intro w'
          go_simp
          with_reducible rfl
        rotate_left
        · simp only [Act.put, List.setIfInBounds_toArray, List.set_cons_zero, List.set_cons_succ, i64_w, i32_w]
          rfl
        refine pure_ (i := 5) (N := some 12) (v := ?_) (a' := ?_) #[true, true, false, false, true, true, false, false, false, false, false, false, false, false, false, false, false, false, false, false, false, false, false, false, false, false, false, false, false, false, false, false, false] rfl rfl (any_of HT_.out (by kernel_rfl)) (fun _ _ _ h => h) (Or.inl ⟨by rfl, ?_⟩) ?_ ?_
        rotate_left
        · intro w'
          go_simp
          with_reducible rfl
        rotate_left
        · simp only [Act.put, List.setIfInBounds_toArray, List.set_cons_zero, List.set_cons_succ, i64_w, i32_w]
          rfl
        refine pure_ (i := 8) (N := some 15) (v := ?_) (a' := ?_) #[true, true, false, false, true, true, false, false, true, false, false, false, false, false, false, false, false, false, false, false, false, false, false, false, false, false, false, false, false, false, false, false, false] rfl rfl (any_of HT_.out (by kernel_rfl)) (fun _ _ _ h => h) (Or.inl ⟨by rfl, ?_⟩) ?_ ?_
        rotate_left
        · intro w'
          go_simp
          with_reducible rfl
        rotate_left
        · simp only [Act.put, List.setIfInBounds_toArray, List.set_cons_zero, List.set_cons_succ, i64_w, i32_w]
          rfl
        refine pure_ (i := 9) (N := some 16) (v := ?_) (a' := ?_) #[true, true, false, false, true, true, false, false, true, true, false, false, false, false, false, false, false, false, false, false, false, false, false, false, false, false, false, false, false, false, false, false, false] rfl rfl (any_of HT_.out (by kernel_rfl)) (fun _ _ _ h => h) (Or.inl ⟨by rfl, ?_⟩) ?_ ?_
        rotate_left
        · intro w'
          go_simp
          with_reducible rfl
        rotate_left
        · simp only [Act.put, List.setIfInBounds_toArray, List.set_cons_zero, List.set_cons_succ, i64_w, i32_w]
          rfl
        refine take_ (i := 2) (N := some 9) (v := ?_) (a' := ?_) #[true, true, true, false, true, true, false, false, true, true, false, false, false, false, false, false, false, false, false, false, false, false, false, false, false, false, false, false, false, false, false, false, false] rfl rfl (take_ofW HT_.out HW_.out (by kernel_rfl)) (fun _ _ _ h => h) (Or.inl ⟨by rfl, ?_⟩) hHeld ?_ ?_
        rotate_left
        · rintro w' ⟨s0, s1, s2, s3⟩
          go_simp
          with_reducible rfl
        rotate_left
        · simp only [Act.put, List.setIfInBounds_toArray, List.set_cons_zero, List.set_cons_succ, i64_w, i32_w]
          rfl
        refine take_ (i := 7) (N := some 14) (v := ?_) (a' := ?_) #[true, true, true, false, true, true, false, true, true, true, false, false, false, false, false, false, false, false, false, false, false, false, false, false, false, false, false, false, false, false, false, false, false] rfl rfl (take_ofW HT_.out HW_.out (by kernel_rfl)) (fun _ _ _ h => h) (Or.inl ⟨by rfl, ?_⟩) hHeld ?_ ?_
        rotate_left
        · rintro w' ⟨s0, s1, s2, s3⟩
          go_simp
          with_reducible rfl
        rotate_left
        · simp only [Act.put, List.setIfInBounds_toArray, List.set_cons_zero, List.set_cons_succ, i64_w, i32_w]
          rfl
        refine one_ (i := 3) (N := some 10) #[true, true, true, true, true, true, false, true, true, true, false, false, false, false, false, false, false, false, false, false, false, false, false, false, false, false, false, false, false, false, false, false, false] rfl rfl (one_of HT_.out (by kernel_rfl)) (by decide) (fun K hK => ?_)
        refine goes_ Try.func9 (by kernel_rfl) rfl #[.agg #[.int .i64 a0_0, .bool a0_1, .bool a0_2, .int .i64 a0_3]] (by rfl) rfl rfl (by (try simp only [List.map_toArray, List.map_cons, List.map_nil]); first | done | rfl | (simp only [List.length_drop, List.length_take]; rfl)) ?_
        with_reducible refine (frisketlaw15_of.calls a0_0 a0_1 a0_2 a0_3 t138 t139 t140 t141 _ A6.out).mono ?_
        rintro e w19 ⟨rfl, hb⟩
        refine ⟨_, rfl, ?_⟩
        have n0_ := Aside0.mk (blk_below (g := gb136) (o := .cells #[.int .i64 a0_0, .bool a0_1, .bool a0_2, .int .i64 a0_3] 24 (0, 0)) (by (with_reducible repeat (first | refine blk_drewN ?_ _ | refine blk_drew ?_ | refine blk_alloc ?_ _)); exact BK136.out) hb)
        have n1_ := Aside0.mk (below_step (by repeat (first | (with_reducible first | exact HB.out | apply below_alloc | apply pw_below_drewN | apply below_drew1 | refine below_set ?_ GE136.out) | exact HB.out)) hb)
        clear BK136
        clear HB
        have BK136 := n0_
        have HB := n1_
        clear n0_ n1_
        (try clear hb)
        (try clear hb2)
        (try clear hk)
        (try clear hi)
        refine hK.out _ _ ⟨(blk_cell BK136.out 0).trans rfl, (blk_cell BK136.out 1).trans rfl, (blk_cell BK136.out 2).trans rfl, (blk_cell BK136.out 3).trans rfl⟩ (fun hHeld => ?_)
        clear hK K
        refine norm_ (a' := ?_) ?_ ?_
        rotate_left
        · show Act.put _ (some 10) _ = _
          simp only [Act.put, List.setIfInBounds_toArray, List.set_cons_zero, List.set_cons_succ, i64_w, i32_w]
          rfl
        refine one_ (i := 6) (N := some 13) #[true, true, true, true, true, true, true, true, true, true, false, false, false, false, false, false, false, false, false, false, false, false, false, false, false, false, false, false, false, false, false, false, false] rfl rfl (one_of HT_.out (by kernel_rfl)) (by decide) (fun K hK => ?_)
        refine goes_ Try.func8 (by kernel_rfl) rfl #[.agg #[.int .i64 t138, .bool t139, .bool t140, .int .i64 t141], .int .i64 a1, .int .i64 a2] (by rfl) rfl rfl (by (try simp only [List.map_toArray, List.map_cons, List.map_nil]); first | done | rfl | (simp only [List.length_drop, List.length_take]; rfl)) ?_
        with_reducible refine (upright_Way.calls k t138 t139 t140 t141 a1 a2 t142 _ A7.out).mono ?_
        rintro e w20 ⟨rfl, hb⟩
        refine ⟨_, rfl, ?_⟩
        have n0_ := Aside0.mk (blk_below (g := gb136) (o := .cells #[.int .i64 a0_0, .bool a0_1, .bool a0_2, .int .i64 a0_3] 24 (0, 0)) (by (with_reducible repeat (first | refine blk_drewN ?_ _ | refine blk_drew ?_ | refine blk_alloc ?_ _)); exact BK136.out) hb)
        have n1_ := Aside0.mk (below_step (by repeat (first | (with_reducible first | exact HB.out | apply below_alloc | apply pw_below_drewN | apply below_drew1 | refine below_set ?_ GE136.out) | exact HB.out)) hb)
        clear BK136
        clear HB
        have BK136 := n0_
        have HB := n1_
        clear n0_ n1_
        (try clear hb)
        (try clear hb2)
        (try clear hk)
        (try clear hi)
        refine hK.out _ _ ⟨(blk_cell BK136.out 0).trans rfl, (blk_cell BK136.out 1).trans rfl, (blk_cell BK136.out 2).trans rfl, (blk_cell BK136.out 3).trans rfl⟩ (fun hHeld => ?_)
        clear hK K
        refine norm_ (a' := ?_) ?_ ?_
        rotate_left
        · show Act.put _ (some 13) _ = _
          simp only [Act.put, List.setIfInBounds_toArray, List.set_cons_zero, List.set_cons_succ, i64_w, i32_w]
          rfl
        refine one_ (i := 10) (N := some 17) #[true, true, true, true, true, true, true, true, true, true, true, false, false, false, false, false, false, false, false, false, false, false, false, false, false, false, false, false, false, false, false, false, false] rfl rfl (one_of HT_.out (by kernel_rfl)) (by decide) (fun K hK => ?_)
        refine goes_ Try.func10 (by kernel_rfl) rfl #[.agg #[.int .i64 a0_0, .bool a0_1, .bool a0_2, .int .i64 a0_3], .int .i64 a1, .int .i64 a2] (by rfl) rfl rfl (by (try simp only [List.map_toArray, List.map_cons, List.map_nil]); first | done | rfl | (simp only [List.length_drop, List.length_take]; rfl)) ?_
        with_reducible refine (frisketref15_Way.calls k a0_0 a0_1 a0_2 a0_3 a1 a2 t143 _ A8.out).mono ?_
        rintro e w21 ⟨rfl, hb⟩
        refine ⟨_, rfl, ?_⟩
        have n0_ := Aside0.mk (blk_below (g := gb136) (o := .cells #[.int .i64 a0_0, .bool a0_1, .bool a0_2, .int .i64 a0_3] 24 (0, 0)) (by (with_reducible repeat (first | refine blk_drewN ?_ _ | refine blk_drew ?_ | refine blk_alloc ?_ _)); exact BK136.out) hb)
        have n1_ := Aside0.mk (below_step (by repeat (first | (with_reducible first | exact HB.out | apply below_alloc | apply pw_below_drewN | apply below_drew1 | refine below_set ?_ GE136.out) | exact HB.out)) hb)
        clear BK136
        clear HB
        have BK136 := n0_
        have HB := n1_
        clear n0_ n1_
        (try clear hb)
        (try clear hb2)
        (try clear hk)
        (try clear hi)
        refine hK.out _ _ ⟨(blk_cell BK136.out 0).trans rfl, (blk_cell BK136.out 1).trans rfl, (blk_cell BK136.out 2).trans rfl, (blk_cell BK136.out 3).trans rfl⟩ (fun hHeld => ?_)
        clear hK K
        refine norm_ (a' := ?_) ?_ ?_
        rotate_left
        · show Act.put _ (some 17) _ = _
          simp only [Act.put, List.setIfInBounds_toArray, List.set_cons_zero, List.set_cons_succ, i64_w, i32_w]
          rfl
        refine pure_ (i := 11) (N := some 18) (v := ?_) (a' := ?_) #[true, true, true, true, true, true, true, true, true, true, true, true, false, false, false, false, false, false, false, false, false, false, false, false, false, false, false, false, false, false, false, false, false] rfl rfl (any_of HT_.out (by kernel_rfl)) (fun _ _ _ h => h) (Or.inl ⟨by rfl, ?_⟩) ?_ ?_
        rotate_left
        · intro w'
          go_simp
          with_reducible rfl
        rotate_left
        · simp only [Act.put, List.setIfInBounds_toArray, List.set_cons_zero, List.set_cons_succ, i64_w, i32_w]
          rfl
        refine pure_ (i := 12) (N := some 19) (v := ?_) (a' := ?_) #[true, true, true, true, true, true, true, true, true, true, true, true, true, false, false, false, false, false, false, false, false, false, false, false, false, false, false, false, false, false, false, false, false] rfl rfl (any_of HT_.out (by kernel_rfl)) (fun _ _ _ h => h) (Or.inl ⟨by rfl, ?_⟩) ?_ ?_
        rotate_left
        · intro w'
          go_simp
          with_reducible rfl
        rotate_left
        · simp only [Act.put, List.setIfInBounds_toArray, List.set_cons_zero, List.set_cons_succ, i64_w, i32_w]
          rfl
        refine pure_ (i := 13) (N := some 20) (v := ?_) (a' := ?_) #[true, true, true, true, true, true, true, true, true, true, true, true, true, true, false, false, false, false, false, false, false, false, false, false, false, false, false, false, false, false, false, false, false] rfl rfl (any_of HT_.out (by kernel_rfl)) (fun _ _ _ h => h) (Or.inl ⟨by rfl, ?_⟩) ?_ ?_
        rotate_left
        · intro w'
          go_simp
          with_reducible rfl
        rotate_left
        · simp only [Act.put, List.setIfInBounds_toArray, List.set_cons_zero, List.set_cons_succ, i64_w, i32_w]
          rfl
        refine pure_ (i := 16) (N := some 23) (v := ?_) (a' := ?_) #[true, true, true, true, true, true, true, true, true, true, true, true, true, true, false, false, true, false, false, false, false, false, false, false, false, false, false, false, false, false, false, false, false] rfl rfl (any_of HT_.out (by kernel_rfl)) (fun _ _ _ h => h) (Or.inl ⟨by rfl, ?_⟩) ?_ ?_
        rotate_left
        · intro w'
          go_simp
          with_reducible rfl
        rotate_left
        · simp only [Act.put, List.setIfInBounds_toArray, List.set_cons_zero, List.set_cons_succ, i64_w, i32_w]
          rfl
        refine pure_ (i := 17) (N := some 24) (v := ?_) (a' := ?_) #[true, true, true, true, true, true, true, true, true, true, true, true, true, true, false, false, true, true, false, false, false, false, false, false, false, false, false, false, false, false, false, false, false] rfl rfl (any_of HT_.out (by kernel_rfl)) (fun _ _ _ h => h) (Or.inl ⟨by rfl, ?_⟩) ?_ ?_
        rotate_left
        · intro w'
          go_simp
          with_reducible rfl
        rotate_left
        · simp only [Act.put, List.setIfInBounds_toArray, List.set_cons_zero, List.set_cons_succ, i64_w, i32_w]
          rfl
        refine pure_ (i := 20) (N := some 27) (v := ?_) (a' := ?_) #[true, true, true, true, true, true, true, true, true, true, true, true, true, true, false, false, true, true, false, false, true, false, false, false, false, false, false, false, false, false, false, false, false] rfl rfl (any_of HT_.out (by kernel_rfl)) (fun _ _ _ h => h) (Or.inl ⟨by rfl, ?_⟩) ?_ ?_
        rotate_left
        · intro w'
          go_simp
          with_reducible rfl
        rotate_left
        · simp only [Act.put, List.setIfInBounds_toArray, List.set_cons_zero, List.set_cons_succ, i64_w, i32_w]
          rfl
        refine pure_ (i := 21) (N := some 28) (v := ?_) (a' := ?_) #[true, true, true, true, true, true, true, true, true, true, true, true, true, true, false, false, true, true, false, false, true, true, false, false, false, false, false, false, false, false, false, false, false] rfl rfl (any_of HT_.out (by kernel_rfl)) (fun _ _ _ h => h) (Or.inl ⟨by rfl, ?_⟩) ?_ ?_
        rotate_left
        · intro w'
          go_simp
          with_reducible rfl
        rotate_left
        · simp only [Act.put, List.setIfInBounds_toArray, List.set_cons_zero, List.set_cons_succ, i64_w, i32_w]
          rfl
        refine take_ (i := 14) (N := some 21) (v := ?_) (a' := ?_) #[true, true, true, true, true, true, true, true, true, true, true, true, true, true, true, false, true, true, false, false, true, true, false, false, false, false, false, false, false, false, false, false, false] rfl rfl (take_ofW HT_.out HW_.out (by kernel_rfl)) (fun _ _ _ h => h) (Or.inl ⟨by rfl, ?_⟩) hHeld ?_ ?_
        rotate_left
        · rintro w' ⟨s0, s1, s2, s3⟩
          go_simp
          with_reducible rfl
        rotate_left
        · simp only [Act.put, List.setIfInBounds_toArray, List.set_cons_zero, List.set_cons_succ, i64_w, i32_w]
          rfl
        refine take_ (i := 19) (N := some 26) (v := ?_) (a' := ?_) #[true, true, true, true, true, true, true, true, true, true, true, true, true, true, true, false, true, true, false, true, true, true, false, false, false, false, false, false, false, false, false, false, false] rfl rfl (take_ofW HT_.out HW_.out (by kernel_rfl)) (fun _ _ _ h => h) (Or.inl ⟨by rfl, ?_⟩) hHeld ?_ ?_
        rotate_left
        · rintro w' ⟨s0, s1, s2, s3⟩
          go_simp
          with_reducible rfl
        rotate_left
        · simp only [Act.put, List.setIfInBounds_toArray, List.set_cons_zero, List.set_cons_succ, i64_w, i32_w]
          rfl
        refine one_ (i := 15) (N := some 22) #[true, true, true, true, true, true, true, true, true, true, true, true, true, true, true, true, true, true, false, true, true, true, false, false, false, false, false, false, false, false, false, false, false] rfl rfl (one_of HT_.out (by kernel_rfl)) (by decide) (fun K hK => ?_)
        refine goes_ Try.func9 (by kernel_rfl) rfl #[.agg #[.int .i64 a0_0, .bool a0_1, .bool a0_2, .int .i64 a0_3]] (by rfl) rfl rfl (by (try simp only [List.map_toArray, List.map_cons, List.map_nil]); first | done | rfl | (simp only [List.length_drop, List.length_take]; rfl)) ?_
        with_reducible refine (frisketlaw15_of.calls a0_0 a0_1 a0_2 a0_3 t144 t145 t146 t147 _ A10.out).mono ?_
        rintro e w22 ⟨rfl, hb⟩
        refine ⟨_, rfl, ?_⟩
        have n0_ := Aside0.mk (blk_below (g := gb136) (o := .cells #[.int .i64 a0_0, .bool a0_1, .bool a0_2, .int .i64 a0_3] 24 (0, 0)) (by (with_reducible repeat (first | refine blk_drewN ?_ _ | refine blk_drew ?_ | refine blk_alloc ?_ _)); exact BK136.out) hb)
        have n1_ := Aside0.mk (below_step (by repeat (first | (with_reducible first | exact HB.out | apply below_alloc | apply pw_below_drewN | apply below_drew1 | refine below_set ?_ GE136.out) | exact HB.out)) hb)
        clear BK136
        clear HB
        have BK136 := n0_
        have HB := n1_
        clear n0_ n1_
        (try clear hb)
        (try clear hb2)
        (try clear hk)
        (try clear hi)
        refine hK.out _ _ ⟨(blk_cell BK136.out 0).trans rfl, (blk_cell BK136.out 1).trans rfl, (blk_cell BK136.out 2).trans rfl, (blk_cell BK136.out 3).trans rfl⟩ (fun hHeld => ?_)
        clear hK K
        refine norm_ (a' := ?_) ?_ ?_
        rotate_left
        · show Act.put _ (some 22) _ = _
          simp only [Act.put, List.setIfInBounds_toArray, List.set_cons_zero, List.set_cons_succ, i64_w, i32_w]
          rfl
        refine one_ (i := 18) (N := some 25) #[true, true, true, true, true, true, true, true, true, true, true, true, true, true, true, true, true, true, true, true, true, true, false, false, false, false, false, false, false, false, false, false, false] rfl rfl (one_of HT_.out (by kernel_rfl)) (by decide) (fun K hK => ?_)
        refine goes_ Try.func11 (by kernel_rfl) rfl #[.agg #[.int .i64 t144, .bool t145, .bool t146, .int .i64 t147], .int .i64 a1, .int .i64 a2] (by rfl) rfl rfl (by (try simp only [List.map_toArray, List.map_cons, List.map_nil]); first | done | rfl | (simp only [List.length_drop, List.length_take]; rfl)) ?_
        with_reducible refine (upright_Reach.calls k t144 t145 t146 t147 a1 a2 t148 _ A11.out).mono ?_
        rintro e w23 ⟨rfl, hb⟩
        refine ⟨_, rfl, ?_⟩
        have n0_ := Aside0.mk (blk_below (g := gb136) (o := .cells #[.int .i64 a0_0, .bool a0_1, .bool a0_2, .int .i64 a0_3] 24 (0, 0)) (by (with_reducible repeat (first | refine blk_drewN ?_ _ | refine blk_drew ?_ | refine blk_alloc ?_ _)); exact BK136.out) hb)
        have n1_ := Aside0.mk (below_step (by repeat (first | (with_reducible first | exact HB.out | apply below_alloc | apply pw_below_drewN | apply below_drew1 | refine below_set ?_ GE136.out) | exact HB.out)) hb)
        clear BK136
        clear HB
        have BK136 := n0_
        have HB := n1_
        clear n0_ n1_
        (try clear hb)
        (try clear hb2)
        (try clear hk)
        (try clear hi)
        refine hK.out _ _ ⟨(blk_cell BK136.out 0).trans rfl, (blk_cell BK136.out 1).trans rfl, (blk_cell BK136.out 2).trans rfl, (blk_cell BK136.out 3).trans rfl⟩ (fun hHeld => ?_)
        clear hK K
        refine norm_ (a' := ?_) ?_ ?_
        rotate_left
        · show Act.put _ (some 25) _ = _
          simp only [Act.put, List.setIfInBounds_toArray, List.set_cons_zero, List.set_cons_succ, i64_w, i32_w]
          rfl
        refine one_ (i := 22) (N := some 29) #[true, true, true, true, true, true, true, true, true, true, true, true, true, true, true, true, true, true, true, true, true, true, true, false, false, false, false, false, false, false, false, false, false] rfl rfl (one_of HT_.out (by kernel_rfl)) (by decide) (fun K hK => ?_)
        refine goes_ Try.func12 (by kernel_rfl) rfl #[.agg #[.int .i64 a0_0, .bool a0_1, .bool a0_2, .int .i64 a0_3], .int .i64 a1, .int .i64 a2] (by rfl) rfl rfl (by (try simp only [List.map_toArray, List.map_cons, List.map_nil]); first | done | rfl | (simp only [List.length_drop, List.length_take]; rfl)) ?_
        with_reducible refine (frisketref15_Reach.calls k a0_0 a0_1 a0_2 a0_3 a1 a2 t149 _ A12.out).mono ?_
        rintro e w24 ⟨rfl, hb⟩
        refine ⟨_, rfl, ?_⟩
        have n0_ := Aside0.mk (blk_below (g := gb136) (o := .cells #[.int .i64 a0_0, .bool a0_1, .bool a0_2, .int .i64 a0_3] 24 (0, 0)) (by (with_reducible repeat (first | refine blk_drewN ?_ _ | refine blk_drew ?_ | refine blk_alloc ?_ _)); exact BK136.out) hb)
        have n1_ := Aside0.mk (below_step (by repeat (first | (with_reducible first | exact HB.out | apply below_alloc | apply pw_below_drewN | apply below_drew1 | refine below_set ?_ GE136.out) | exact HB.out)) hb)
        clear BK136
        clear HB
        have BK136 := n0_
        have HB := n1_
        clear n0_ n1_
        (try clear hb)
        (try clear hb2)
        (try clear hk)
        (try clear hi)
        refine hK.out _ _ ⟨(blk_cell BK136.out 0).trans rfl, (blk_cell BK136.out 1).trans rfl, (blk_cell BK136.out 2).trans rfl, (blk_cell BK136.out 3).trans rfl⟩ (fun hHeld => ?_)
        clear hK K
        refine norm_ (a' := ?_) ?_ ?_
        rotate_left
        · show Act.put _ (some 29) _ = _
          simp only [Act.put, List.setIfInBounds_toArray, List.set_cons_zero, List.set_cons_succ, i64_w, i32_w]
          rfl
        refine pure_ (i := 23) (N := some 30) (v := ?_) (a' := ?_) #[true, true, true, true, true, true, true, true, true, true, true, true, true, true, true, true, true, true, true, true, true, true, true, true, false, false, false, false, false, false, false, false, false] rfl rfl (any_of HT_.out (by kernel_rfl)) (fun _ _ _ h => h) (Or.inl ⟨by rfl, ?_⟩) ?_ ?_
        rotate_left
        · intro w'
          go_simp
          with_reducible rfl
        rotate_left
        · simp only [Act.put, List.setIfInBounds_toArray, List.set_cons_zero, List.set_cons_succ, i64_w, i32_w]
          rfl
        refine pure_ (i := 24) (N := some 31) (v := ?_) (a' := ?_) #[true, true, true, true, true, true, true, true, true, true, true, true, true, true, true, true, true, true, true, true, true, true, true, true, true, false, false, false, false, false, false, false, false] rfl rfl (any_of HT_.out (by kernel_rfl)) (fun _ _ _ h => h) (Or.inl ⟨by rfl, ?_⟩) ?_ ?_
        rotate_left
        · intro w'
          go_simp
          with_reducible rfl
        rotate_left
        · simp only [Act.put, List.setIfInBounds_toArray, List.set_cons_zero, List.set_cons_succ, i64_w, i32_w]
          rfl
        refine pure_ (i := 25) (N := some 32) (v := ?_) (a' := ?_) #[true, true, true, true, true, true, true, true, true, true, true, true, true, true, true, true, true, true, true, true, true, true, true, true, true, true, false, false, false, false, false, false, false] rfl rfl (any_of HT_.out (by kernel_rfl)) (fun _ _ _ h => h) (Or.inl ⟨by rfl, ?_⟩) ?_ ?_
        rotate_left
        · intro w'
          go_simp
          with_reducible rfl
        rotate_left
        · simp only [Act.put, List.setIfInBounds_toArray, List.set_cons_zero, List.set_cons_succ, i64_w, i32_w]
          rfl
        refine pure_ (i := 26) (N := some 33) (v := ?_) (a' := ?_) #[true, true, true, true, true, true, true, true, true, true, true, true, true, true, true, true, true, true, true, true, true, true, true, true, true, true, true, false, false, false, false, false, false] rfl rfl (any_of HT_.out (by kernel_rfl)) (fun _ _ _ h => h) (Or.inl ⟨by rfl, ?_⟩) ?_ ?_
        rotate_left
        · intro w'
          go_simp
          with_reducible rfl
        rotate_left
        · simp only [Act.put, List.setIfInBounds_toArray, List.set_cons_zero, List.set_cons_succ, i64_w, i32_w]
          rfl
        refine pure_ (i := 28) (N := some 35) (v := ?_) (a' := ?_) #[true, true, true, true, true, true, true, true, true, true, true, true, true, true, true, true, true, true, true, true, true, true, true, true, true, true, true, false, true, false, false, false, false] rfl rfl (any_of HT_.out (by kernel_rfl)) (fun _ _ _ h => h) (Or.inl ⟨by rfl, ?_⟩) ?_ ?_
        rotate_left
        · intro w'
          go_simp
          with_reducible rfl
        rotate_left
        · simp only [Act.put, List.setIfInBounds_toArray, List.set_cons_zero, List.set_cons_succ, i64_w, i32_w]
          rfl
        refine one_ (i := 27) (N := some 34) #[true, true, true, true, true, true, true, true, true, true, true, true, true, true, true, true, true, true, true, true, true, true, true, true, true, true, true, true, true, false, false, false, false] rfl rfl (one_of HT_.out (by kernel_rfl)) (by decide) (fun K hK => ?_)
        refine goes_ Try.func13 (by kernel_rfl) rfl #[.int .i64 a2] (by rfl) rfl rfl (by (try simp only [List.map_toArray, List.map_cons, List.map_nil]); first | done | rfl | (simp only [List.length_drop, List.length_take]; rfl)) ?_
        with_reducible refine (upright_Columns.calls a2 t150 _ A14.out).mono ?_
        rintro e w' ⟨rfl, ⟨nd, rfl⟩⟩
        refine ⟨_, rfl, ?_⟩
        refine hK.out _ _ ⟨(blk_cell BK136.out 0).trans rfl, (blk_cell BK136.out 1).trans rfl, (blk_cell BK136.out 2).trans rfl, (blk_cell BK136.out 3).trans rfl⟩ (fun hHeld => ?_)
        clear hK K
        refine norm_ (a' := ?_) ?_ ?_
        rotate_left
        · show Act.put _ (some 34) _ = _
          simp only [Act.put, List.setIfInBounds_toArray, List.set_cons_zero, List.set_cons_succ, i64_w, i32_w]
          rfl
        refine one_ (i := 29) (N := some 36) #[true, true, true, true, true, true, true, true, true, true, true, true, true, true, true, true, true, true, true, true, true, true, true, true, true, true, true, true, true, true, false, false, false] rfl rfl (one_of HT_.out (by kernel_rfl)) (by decide) (fun K hK => ?_)
        refine goes_ Try.func14 (by kernel_rfl) rfl #[.int .i64 a2] (by rfl) rfl rfl (by (try simp only [List.map_toArray, List.map_cons, List.map_nil]); first | done | rfl | (simp only [List.length_drop, List.length_take]; rfl)) ?_
        with_reducible refine (frisketref15_Columns.calls a2 t151 _ A15.out).mono ?_
        rintro e w' ⟨rfl, ⟨nd, rfl⟩⟩
        refine ⟨_, rfl, ?_⟩
        refine hK.out _ _ ⟨(blk_cell BK136.out 0).trans rfl, (blk_cell BK136.out 1).trans rfl, (blk_cell BK136.out 2).trans rfl, (blk_cell BK136.out 3).trans rfl⟩ (fun hHeld => ?_)
        clear hK K
        refine norm_ (a' := ?_) ?_ ?_
        rotate_left
        · show Act.put _ (some 36) _ = _
          simp only [Act.put, List.setIfInBounds_toArray, List.set_cons_zero, List.set_cons_succ, i64_w, i32_w]
          rfl
        refine pure_ (i := 30) (N := some 37) (v := ?_) (a' := ?_) #[true, true, true, true, true, true, true, true, true, true, true, true, true, true, true, true, true, true, true, true, true, true, true, true, true, true, true, true, true, true, true, false, false] rfl rfl (any_of HT_.out (by kernel_rfl)) (fun _ _ _ h => h) (Or.inl ⟨by rfl, ?_⟩) ?_ ?_
        rotate_left
        · intro w'
          go_simp
          with_reducible rfl
        rotate_left
        · simp only [Act.put, List.setIfInBounds_toArray, List.set_cons_zero, List.set_cons_succ, i64_w, i32_w]
          rfl
        refine pure_ (i := 31) (N := some 38) (v := ?_) (a' := ?_) #[true, true, true, true, true, true, true, true, true, true, true, true, true, true, true, true, true, true, true, true, true, true, true, true, true, true, true, true, true, true, true, true, false] rfl rfl (any_of HT_.out (by kernel_rfl)) (fun _ _ _ h => h) (Or.inl ⟨by rfl, ?_⟩) ?_ ?_
        rotate_left
        · intro w'
          go_simp
          with_reducible rfl
        rotate_left
        · simp only [Act.put, List.setIfInBounds_toArray, List.set_cons_zero, List.set_cons_succ, i64_w, i32_w]
          rfl
        refine pure_ (i := 32) (N := some 6) (v := ?_) (a' := ?_) #[true, true, true, true, true, true, true, true, true, true, true, true, true, true, true, true, true, true, true, true, true, true, true, true, true, true, true, true, true, true, true, true, true] rfl rfl (any_of HT_.out (by kernel_rfl)) (fun _ _ _ h => h) (Or.inl ⟨by rfl, ?_⟩) ?_ ?_
        rotate_left
        · intro w'
          go_simp
          with_reducible rfl
        rotate_left
        · simp only [Act.put, List.setIfInBounds_toArray, List.set_cons_zero, List.set_cons_succ, i64_w, i32_w]
          rfl
        refine done_ (done_of HT_.out (by kernel_rfl)) ?_
        try go_wp2
        go_ret
        exact ⟨by first | rfl | (simp [errW_none, errW_some] <;> rfl) | (simp [*, errW_none, errW_some] <;> rfl), by repeat (first | (with_reducible first | exact HB.out | apply below_alloc | apply pw_below_drewN | apply below_drew1 | refine below_set ?_ GE136.out) | exact HB.out)⟩
      · rw [if_neg c13] at H
        have c13b0 : (t148 == t149) = false := beq_eq_false_iff_ne.mpr c13
        have c13b1 : (t148 != t149) = true := bne_iff_ne.mpr c13
        exact af_absurd HRT.out H (by repeat (first | exact AF.none | exact AF.false | refine AF.ite ?_ ?_ | refine AF.bind (fun _ => ?_)))
    · rw [if_neg c9] at H
      have c9b0 : (t142 == t143) = false := beq_eq_false_iff_ne.mpr c9
      have c9b1 : (t142 != t143) = true := bne_iff_ne.mpr c9
      exact af_absurd HRT.out H (by repeat (first | exact AF.none | exact AF.false | refine AF.ite ?_ ?_ | refine AF.bind (fun _ => ?_)))
  · replace c5 := Bool.eq_false_iff.mpr c5
    subst c5
    have H1 : (some false) = some r := by rw [if_neg (show ¬ (false = true) by decide)] at H; exact H
    clear H
    have H := H1
    clear H1
    exact af_absurd HRT.out H (by repeat (first | exact AF.none | exact AF.false | refine AF.ite ?_ ?_ | refine AF.bind (fun _ => ?_)))

end Go.Proofs.Ytfpaagilejdghaa.P
