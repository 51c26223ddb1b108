/- The walk of place.Of: what it answers, at every page, mode, cells and flag; no condition. -/
import Derived.Test.YtfaaahchcghnlaaP12
import Derived.Laws.EntriesVeiled
import Derived.WalkSpells
import Derived.WalkLawsBesides
import Derived.Deep.RegionHeld3
import Derived.Test.YtfaaahchcghnlaaHPlace2
import Derived.Test.YtfaaahchcghnlaaHPlace3
import Derived.Test.YtfaaahchcghnlaaHPlace4
import Derived.Test.YtfaaahchcghnlaaHPlace5
import Derived.Test.YtfaaahchcghnlaaHPlace6
namespace Go.Proofs.Ytfaaahchcghnlaa.P
open Go.RowKit Go.Proofs.YtfaaahchcghnlaaW.PrintWords Go.Proofs.YtfaaahchcghnlaaW.PrintLast
set_option linter.unusedSimpArgs false
set_option linter.unusedVariables false
set_option maxHeartbeats 4000000 in
theorem of_badpage (L C m X Y W H : Int) (V : Bool) (w : World) (hG : ¬ Good L C m) :
    Calls Try.prog 14 #[.agg #[.int .i64 L, .int .i64 C], .int .i64 m, .agg #[.int .i64 X, .int .i64 Y, .int .i64 W, .int .i64 H], .bool V] w fun e w' => e = .returned (.tuple #[.agg #[.int .i64 0, .int .i64 0, .int .i64 0, .int .i64 0, .bool false], .int .i64 191]) ∧ Below w.heap.size w w' := by
  have hsd := fun w => place_Sides.calls L C m 0 0 191 w (by unfold place_Sides.f; rw [if_neg hG])
  clear hG
  go_enter Try.func14, Try.ntmps14
  go_wp2_with fail
  refine (hsd _).mono ?_
  rintro e w1 ⟨rfl, hb⟩
  clear hsd
  have K1 := Aside0.mk (blk_below (blk_alloc (blk_new1 w _ (.cells #[.int .i64 X, .int .i64 Y, .int .i64 W, .int .i64 H] 33 (0, 0))) _) hb)
  have K2 := Aside0.mk (blk_below (blk_new2 w _ _ (.cells #[.int .i64 0, .int .i64 0, .int .i64 0, .int .i64 0, .bool false] 36 (0, 0))) hb)
  have HB := Aside0.mk (below_step (below_alloc (below_alloc (below_alloc (Below.refl _ _) _) _) _) hb)
  clear hb
  have cX : w1.cell? ⟨w.heap.size + 1, 0, none⟩ = some (.int .i64 X) := (blk_cell K1.out 0).trans rfl
  have cY : w1.cell? ⟨w.heap.size + 1, 1, none⟩ = some (.int .i64 Y) := (blk_cell K1.out 1).trans rfl
  have cW : w1.cell? ⟨w.heap.size + 1, 2, none⟩ = some (.int .i64 W) := (blk_cell K1.out 2).trans rfl
  have cH : w1.cell? ⟨w.heap.size + 1, 3, none⟩ = some (.int .i64 H) := (blk_cell K1.out 3).trans rfl

  have s0 : w1.cell? ⟨w.heap.size + 1 + 1, 0, none⟩ = some (.int .i64 0) := (blk_cell K2.out 0).trans rfl
  have s1 : w1.cell? ⟨w.heap.size + 1 + 1, 1, none⟩ = some (.int .i64 0) := (blk_cell K2.out 1).trans rfl
  have s2 : w1.cell? ⟨w.heap.size + 1 + 1, 2, none⟩ = some (.int .i64 0) := (blk_cell K2.out 2).trans rfl
  have s3 : w1.cell? ⟨w.heap.size + 1 + 1, 3, none⟩ = some (.int .i64 0) := (blk_cell K2.out 3).trans rfl
  have s4 : w1.cell? ⟨w.heap.size + 1 + 1, 4, none⟩ = some (.bool false) := (blk_cell K2.out 4).trans rfl
  have y0 := blk_frozen K2.out 0
  have y1 := blk_frozen K2.out 1
  have y2 := blk_frozen K2.out 2
  have y3 := blk_frozen K2.out 3
  have y4 := blk_frozen K2.out 4
  go_wp2
  refine bodyPost_ret (v := .tuple #[.agg #[.int .i64 0, .int .i64 0, .int .i64 0, .int .i64 0, .bool false], .int .i64 191]) (by simp [results, Try.results14, go_sem, s0, s1, s2, s3, s4]) rfl ⟨rfl, ?_⟩
  (try refine pw_below_drewN ?_ _)
  repeat (refine below_set ?_ (show _ ≤ _ by omega))
  first | exact HB.out | exact pw_below_drewN HB.out _ | exact below_drewN HB.out _
set_option maxHeartbeats 4000000 in
theorem of_badx (L C m X Y W H : Int) (V : Bool) (w : World) (wd hg : Int) (hG : Good L C m) (hs : (m = 1 ∨ m = 2) ∧ wd = L ∧ hg = C ∨ ¬ (m = 1 ∨ m = 2) ∧ wd = C ∧ hg = L) (hx : ¬ InB X W wd) :
    Calls Try.prog 14 #[.agg #[.int .i64 L, .int .i64 C], .int .i64 m, .agg #[.int .i64 X, .int .i64 Y, .int .i64 W, .int .i64 H], .bool V] w fun e w' => e = .returned (.tuple #[.agg #[.int .i64 0, .int .i64 0, .int .i64 0, .int .i64 0, .bool false], .int .i64 191]) ∧ Below w.heap.size w w' := by
  have l1 : wd ≤ 60 := by
    rcases hs with ⟨_, rfl, rfl⟩ | ⟨_, rfl, rfl⟩
    · exact hG.2.1
    · exact hG.2.2.2.1
  have l2 : hg ≤ 60 := by
    rcases hs with ⟨_, rfl, rfl⟩ | ⟨_, rfl, rfl⟩
    · exact hG.2.2.2.1
    · exact hG.2.1
  have hsd := fun w => sides_good L C m wd hg w hG hs
  have ix := fun w => inside_no X W wd w l1 hx
  clear hG hs l1 l2 hx
  go_enter Try.func14, Try.ntmps14
  go_wp2_with fail
  refine (hsd _).mono ?_
  rintro e w1 ⟨rfl, hb⟩
  clear hsd
  have K1 := Aside0.mk (blk_below (blk_alloc (blk_new1 w _ (.cells #[.int .i64 X, .int .i64 Y, .int .i64 W, .int .i64 H] 33 (0, 0))) _) hb)
  have K2 := Aside0.mk (blk_below (blk_new2 w _ _ (.cells #[.int .i64 0, .int .i64 0, .int .i64 0, .int .i64 0, .bool false] 36 (0, 0))) hb)
  have HB := Aside0.mk (below_step (below_alloc (below_alloc (below_alloc (Below.refl _ _) _) _) _) hb)
  clear hb
  have cX : w1.cell? ⟨w.heap.size + 1, 0, none⟩ = some (.int .i64 X) := (blk_cell K1.out 0).trans rfl
  have cY : w1.cell? ⟨w.heap.size + 1, 1, none⟩ = some (.int .i64 Y) := (blk_cell K1.out 1).trans rfl
  have cW : w1.cell? ⟨w.heap.size + 1, 2, none⟩ = some (.int .i64 W) := (blk_cell K1.out 2).trans rfl
  have cH : w1.cell? ⟨w.heap.size + 1, 3, none⟩ = some (.int .i64 H) := (blk_cell K1.out 3).trans rfl
  go_wp2_with fail
  refine (ix _).mono ?_
  rintro e w2 ⟨rfl, ⟨q2, rfl⟩⟩
  clear ix
  have s0 : w1.cell? ⟨w.heap.size + 1 + 1, 0, none⟩ = some (.int .i64 0) := (blk_cell K2.out 0).trans rfl
  have s1 : w1.cell? ⟨w.heap.size + 1 + 1, 1, none⟩ = some (.int .i64 0) := (blk_cell K2.out 1).trans rfl
  have s2 : w1.cell? ⟨w.heap.size + 1 + 1, 2, none⟩ = some (.int .i64 0) := (blk_cell K2.out 2).trans rfl
  have s3 : w1.cell? ⟨w.heap.size + 1 + 1, 3, none⟩ = some (.int .i64 0) := (blk_cell K2.out 3).trans rfl
  have s4 : w1.cell? ⟨w.heap.size + 1 + 1, 4, none⟩ = some (.bool false) := (blk_cell K2.out 4).trans rfl
  have y0 := blk_frozen K2.out 0
  have y1 := blk_frozen K2.out 1
  have y2 := blk_frozen K2.out 2
  have y3 := blk_frozen K2.out 3
  have y4 := blk_frozen K2.out 4
  go_wp2
  refine bodyPost_ret (v := .tuple #[.agg #[.int .i64 0, .int .i64 0, .int .i64 0, .int .i64 0, .bool false], .int .i64 191]) (by simp [results, Try.results14, go_sem, s0, s1, s2, s3, s4]) rfl ⟨rfl, ?_⟩
  (try refine pw_below_drewN ?_ _)
  repeat (refine below_set ?_ (show _ ≤ _ by omega))
  first | exact HB.out | exact pw_below_drewN HB.out _ | exact below_drewN HB.out _
set_option maxHeartbeats 4000000 in
theorem of_bady (L C m X Y W H : Int) (V : Bool) (w : World) (wd hg : Int) (hG : Good L C m) (hs : (m = 1 ∨ m = 2) ∧ wd = L ∧ hg = C ∨ ¬ (m = 1 ∨ m = 2) ∧ wd = C ∧ hg = L) (hx : InB X W wd) (hy : ¬ InB Y H hg) :
    Calls Try.prog 14 #[.agg #[.int .i64 L, .int .i64 C], .int .i64 m, .agg #[.int .i64 X, .int .i64 Y, .int .i64 W, .int .i64 H], .bool V] w fun e w' => e = .returned (.tuple #[.agg #[.int .i64 0, .int .i64 0, .int .i64 0, .int .i64 0, .bool false], .int .i64 191]) ∧ Below w.heap.size w w' := by
  have l1 : wd ≤ 60 := by
    rcases hs with ⟨_, rfl, rfl⟩ | ⟨_, rfl, rfl⟩
    · exact hG.2.1
    · exact hG.2.2.2.1
  have l2 : hg ≤ 60 := by
    rcases hs with ⟨_, rfl, rfl⟩ | ⟨_, rfl, rfl⟩
    · exact hG.2.2.2.1
    · exact hG.2.1
  have hsd := fun w => sides_good L C m wd hg w hG hs
  have ix := fun w => inside_yes X W wd w l1 hx
  have iy := fun w => inside_no Y H hg w l2 hy
  clear hG hs l1 l2 hx hy
  go_enter Try.func14, Try.ntmps14
  go_wp2_with fail
  refine (hsd _).mono ?_
  rintro e w1 ⟨rfl, hb⟩
  clear hsd
  have K1 := Aside0.mk (blk_below (blk_alloc (blk_new1 w _ (.cells #[.int .i64 X, .int .i64 Y, .int .i64 W, .int .i64 H] 33 (0, 0))) _) hb)
  have K2 := Aside0.mk (blk_below (blk_new2 w _ _ (.cells #[.int .i64 0, .int .i64 0, .int .i64 0, .int .i64 0, .bool false] 36 (0, 0))) hb)
  have HB := Aside0.mk (below_step (below_alloc (below_alloc (below_alloc (Below.refl _ _) _) _) _) hb)
  clear hb
  have cX : w1.cell? ⟨w.heap.size + 1, 0, none⟩ = some (.int .i64 X) := (blk_cell K1.out 0).trans rfl
  have cY : w1.cell? ⟨w.heap.size + 1, 1, none⟩ = some (.int .i64 Y) := (blk_cell K1.out 1).trans rfl
  have cW : w1.cell? ⟨w.heap.size + 1, 2, none⟩ = some (.int .i64 W) := (blk_cell K1.out 2).trans rfl
  have cH : w1.cell? ⟨w.heap.size + 1, 3, none⟩ = some (.int .i64 H) := (blk_cell K1.out 3).trans rfl
  go_wp2_with fail
  refine (ix _).mono ?_
  rintro e w2 ⟨rfl, ⟨q2, rfl⟩⟩
  clear ix
  go_wp2_with fail
  refine (iy _).mono ?_
  rintro e w2 ⟨rfl, ⟨q3, rfl⟩⟩
  clear iy
  have s0 : w1.cell? ⟨w.heap.size + 1 + 1, 0, none⟩ = some (.int .i64 0) := (blk_cell K2.out 0).trans rfl
  have s1 : w1.cell? ⟨w.heap.size + 1 + 1, 1, none⟩ = some (.int .i64 0) := (blk_cell K2.out 1).trans rfl
  have s2 : w1.cell? ⟨w.heap.size + 1 + 1, 2, none⟩ = some (.int .i64 0) := (blk_cell K2.out 2).trans rfl
  have s3 : w1.cell? ⟨w.heap.size + 1 + 1, 3, none⟩ = some (.int .i64 0) := (blk_cell K2.out 3).trans rfl
  have s4 : w1.cell? ⟨w.heap.size + 1 + 1, 4, none⟩ = some (.bool false) := (blk_cell K2.out 4).trans rfl
  have y0 := blk_frozen K2.out 0
  have y1 := blk_frozen K2.out 1
  have y2 := blk_frozen K2.out 2
  have y3 := blk_frozen K2.out 3
  have y4 := blk_frozen K2.out 4
  go_wp2
  refine bodyPost_ret (v := .tuple #[.agg #[.int .i64 0, .int .i64 0, .int .i64 0, .int .i64 0, .bool false], .int .i64 191]) (by simp [results, Try.results14, go_sem, s0, s1, s2, s3, s4]) rfl ⟨rfl, ?_⟩
  (try refine pw_below_drewN ?_ _)
  repeat (refine below_set ?_ (show _ ≤ _ by omega))
  first | exact HB.out | exact pw_below_drewN HB.out _ | exact below_drewN HB.out _
def place_Of.f (L C m X Y W H : Int) (V : Bool) : Option (Int × Int × Int × Int × Bool × Int) :=
  if Good L C m then
    (if m = 1 then (if InB X W L ∧ InB Y H C then some (L - X - W, W, Y, H, false, 0) else some (0, 0, 0, 0, false, 191))
    else if m = 2 then (if InB X W L ∧ InB Y H C then some (X, W, Y, H, false, 0) else some (0, 0, 0, 0, false, 191))
    else if InB X W C ∧ InB Y H L then (if m = 3 then some (Y, H, trn V C X W, W, V, 0) else some (Y, H, X, W, false, 0)) else some (0, 0, 0, 0, false, 191))
  else some (0, 0, 0, 0, false, 191)
theorem of_off (L C m X Y W H : Int) (V : Bool) (w : World) (wd hg : Int) (hG : Good L C m) (hs : (m = 1 ∨ m = 2) ∧ wd = L ∧ hg = C ∨ ¬ (m = 1 ∨ m = 2) ∧ wd = C ∧ hg = L) (h : ¬ (InB X W wd ∧ InB Y H hg)) :
    Calls Try.prog 14 #[.agg #[.int .i64 L, .int .i64 C], .int .i64 m, .agg #[.int .i64 X, .int .i64 Y, .int .i64 W, .int .i64 H], .bool V] w fun e w' => e = .returned (.tuple #[.agg #[.int .i64 0, .int .i64 0, .int .i64 0, .int .i64 0, .bool false], .int .i64 191]) ∧ Below w.heap.size w w' := by
  by_cases hx : InB X W wd
  · exact of_bady L C m X Y W H V w wd hg hG hs hx (fun hy => h ⟨hx, hy⟩)
  · exact of_badx L C m X Y W H V w wd hg hG hs hx
theorem place_Of.calls (a0_0 : Int) (a0_1 : Int) (a1 : Int) (a2_0 : Int) (a2_1 : Int) (a2_2 : Int) (a2_3 : Int) (a3 : Bool) (r1 : Int) (r2 : Int) (r3 : Int) (r4 : Int) (r5 : Bool) (r6 : Int) (w : World) (h : place_Of.f a0_0 a0_1 a1 a2_0 a2_1 a2_2 a2_3 a3 = some (r1, r2, r3, r4, r5, r6)) :
    Calls Try.prog 14 #[.agg #[.int .i64 a0_0, .int .i64 a0_1], .int .i64 a1, .agg #[.int .i64 a2_0, .int .i64 a2_1, .int .i64 a2_2, .int .i64 a2_3], .bool a3] w fun e w' => e = .returned (.tuple #[.agg #[.int .i64 r1, .int .i64 r2, .int .i64 r3, .int .i64 r4, .bool r5], .int .i64 r6]) ∧ Below w.heap.size w w' := by
  unfold place_Of.f at h
  by_cases hG : Good a0_0 a0_1 a1
  · rw [if_pos hG] at h
    rcases hG.2.2.2.2 with rfl | rfl | rfl | rfl
    · by_cases hi : InB a2_0 a2_2 a0_1 ∧ InB a2_1 a2_3 a0_0
      · simp [hi] at h
        obtain ⟨rfl, rfl, rfl, rfl, rfl, rfl⟩ := h
        exact of0 _ _ _ _ _ _ _ _ hG hi.1 hi.2
      · simp [hi] at h
        obtain ⟨rfl, rfl, rfl, rfl, rfl, rfl⟩ := h
        exact of_off _ _ _ _ _ _ _ _ _ _ _ hG (.inr ⟨by simp, rfl, rfl⟩) hi
    · by_cases hi : InB a2_0 a2_2 a0_0 ∧ InB a2_1 a2_3 a0_1
      · simp [hi] at h
        obtain ⟨rfl, rfl, rfl, rfl, rfl, rfl⟩ := h
        exact of1 _ _ _ _ _ _ _ _ hG hi.1 hi.2
      · simp [hi] at h
        obtain ⟨rfl, rfl, rfl, rfl, rfl, rfl⟩ := h
        exact of_off _ _ _ _ _ _ _ _ _ _ _ hG (.inl ⟨by simp, rfl, rfl⟩) hi
    · by_cases hi : InB a2_0 a2_2 a0_0 ∧ InB a2_1 a2_3 a0_1
      · simp [hi] at h
        obtain ⟨rfl, rfl, rfl, rfl, rfl, rfl⟩ := h
        exact of2 _ _ _ _ _ _ _ _ hG hi.1 hi.2
      · simp [hi] at h
        obtain ⟨rfl, rfl, rfl, rfl, rfl, rfl⟩ := h
        exact of_off _ _ _ _ _ _ _ _ _ _ _ hG (.inl ⟨by simp, rfl, rfl⟩) hi
    · by_cases hi : InB a2_0 a2_2 a0_1 ∧ InB a2_1 a2_3 a0_0
      · simp [hi] at h
        obtain ⟨rfl, rfl, rfl, rfl, rfl, rfl⟩ := h
        exact of3 _ _ _ _ _ _ _ _ hG hi.1 hi.2
      · simp [hi] at h
        obtain ⟨rfl, rfl, rfl, rfl, rfl, rfl⟩ := h
        exact of_off _ _ _ _ _ _ _ _ _ _ _ hG (.inr ⟨by simp, rfl, rfl⟩) hi
  · rw [if_neg hG] at h
    simp at h
    obtain ⟨rfl, rfl, rfl, rfl, rfl, rfl⟩ := h
    exact of_badpage _ _ _ _ _ _ _ _ _ hG
end Go.Proofs.Ytfaaahchcghnlaa.P
