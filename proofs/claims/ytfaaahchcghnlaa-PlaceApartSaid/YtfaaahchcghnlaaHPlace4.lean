/- The walk of place.Of: what it answers, at every page, mode, cells and flag; no condition. -/
import Derived.Test.YtfaaahchcghnlaaP12
import Derived.Laws.EntriesVeiled
import Derived.WalkSpells
import Derived.WalkLawsBesides
import Derived.Deep.RegionHeld3
import Derived.Test.YtfaaahchcghnlaaHPlace2
import Derived.Test.YtfaaahchcghnlaaHReg
import Derived.Test.YtfaaahchcghnlaaHPlace3
namespace Go.Proofs.Ytfaaahchcghnlaa.P
open Go.RowKit Go.Proofs.YtfaaahchcghnlaaW.PrintWords Go.Proofs.YtfaaahchcghnlaaW.PrintLast
set_option linter.unusedSimpArgs false
set_option linter.unusedVariables false
set_option maxHeartbeats 4000000 in
theorem of1 (L C X Y W H : Int) (V : Bool) (w : World) (hG : Good L C 1) (hx : InB X W L) (hy : InB Y H C) :
    Calls Try.prog 14 #[.agg #[.int .i64 L, .int .i64 C], .int .i64 1, .agg #[.int .i64 X, .int .i64 Y, .int .i64 W, .int .i64 H], .bool V] w fun e w' => e = .returned (.tuple #[.agg #[.int .i64 (L - X - W), .int .i64 W, .int .i64 (Y), .int .i64 H, .bool false], .int .i64 0]) ∧ Below w.heap.size w w' := by
  have hsd := fun w => sides_good L C 1 L C w hG (by simp)
  obtain ⟨h1, h2, h3, h4, hm⟩ := hG
  have hgood := fun w => of_good L C 1 w h1 h2 h3 h4 hm
  simp [wayOf] at hgood
  have ix := fun w => inside_yes X W L w (by omega) hx
  have iy := fun w => inside_yes Y H C w (by omega) hy
  obtain ⟨x1, x2, x3, x4⟩ := hx
  obtain ⟨y1, y2, y3, y4⟩ := hy
  clear hm
  cases V
  all_goals
    go_enter Try.func14, Try.ntmps14
    go_wp2_with fail
    refine (hsd _).mono ?_
    rintro e w1 ⟨rfl, hb⟩
    clear hsd
    have K0 := Aside0.mk (blk_below (blk_alloc (blk_alloc (blk_new w (.cells #[.int .i64 L, .int .i64 C] 23 (0, 0))) _) _) hb)
    have K1 := Aside0.mk (blk_below (blk_alloc (blk_new1 w _ (.cells #[.int .i64 X, .int .i64 Y, .int .i64 W, .int .i64 H] 33 (0, 0))) _) hb)
    have K2 := Aside0.mk (blk_below (blk_new2 w _ _ (.cells #[.int .i64 0, .int .i64 0, .int .i64 0, .int .i64 0, .bool false] 36 (0, 0))) hb)
    have HB := Aside0.mk (below_step (below_alloc (below_alloc (below_alloc (Below.refl _ _) _) _) _) hb)
    clear hb
    have cX : w1.cell? ⟨w.heap.size + 1, 0, none⟩ = some (.int .i64 X) := (blk_cell K1.out 0).trans rfl
    have cY : w1.cell? ⟨w.heap.size + 1, 1, none⟩ = some (.int .i64 Y) := (blk_cell K1.out 1).trans rfl
    have cW : w1.cell? ⟨w.heap.size + 1, 2, none⟩ = some (.int .i64 W) := (blk_cell K1.out 2).trans rfl
    have cH : w1.cell? ⟨w.heap.size + 1, 3, none⟩ = some (.int .i64 H) := (blk_cell K1.out 3).trans rfl
    have cL : w1.cell? ⟨w.heap.size, 0, none⟩ = some (.int .i64 L) := (blk_cell K0.out 0).trans rfl
    have cC : w1.cell? ⟨w.heap.size, 1, none⟩ = some (.int .i64 C) := (blk_cell K0.out 1).trans rfl
    go_wp2_with fail
    refine (ix _).mono ?_
    rintro e w2 ⟨rfl, ⟨q2, rfl⟩⟩
    clear ix
    go_wp2_with fail
    refine (iy _).mono ?_
    rintro e w2 ⟨rfl, ⟨q3, rfl⟩⟩
    clear iy
    go_wp2_with fail
    refine (hgood _).mono ?_
    rintro e w3 ⟨rfl, hb3⟩
    clear hgood
    have J0 := Aside0.mk (blk_below (blk_drewN K0.out _) hb3)
    have J1 := Aside0.mk (blk_below (blk_drewN K1.out _) hb3)
    have J2 := Aside0.mk (blk_below (blk_drewN K2.out _) hb3)
    have HB2 := Aside0.mk (below_step (pw_below_drewN HB.out _) hb3)
    have hz0 : w.heap.size < w1.heap.size := blk_lt K0.out
    have hz1 : w.heap.size + 1 < w1.heap.size := blk_lt K1.out
    have hz3 : w1.heap.size ≤ w3.heap.size := by have := hb3.size; simpa using this
    clear hb3 K0 K1 K2 HB cX cY cW cH cL cC
    have dX : w3.cell? ⟨w.heap.size + 1, 0, none⟩ = some (.int .i64 X) := (blk_cell J1.out 0).trans rfl
    have dY : w3.cell? ⟨w.heap.size + 1, 1, none⟩ = some (.int .i64 Y) := (blk_cell J1.out 1).trans rfl
    have dW : w3.cell? ⟨w.heap.size + 1, 2, none⟩ = some (.int .i64 W) := (blk_cell J1.out 2).trans rfl
    have dH : w3.cell? ⟨w.heap.size + 1, 3, none⟩ = some (.int .i64 H) := (blk_cell J1.out 3).trans rfl
    have hn0 : ¬ (w.heap.size = w3.heap.size) := by omega
    have hn1 : ¬ (w.heap.size + 1 = w3.heap.size) := by omega
    have hl0 : w.heap.size < w3.heap.size := by omega
    have hl1 : w.heap.size + 1 < w3.heap.size := by omega
    have hn2 : ¬ (w.heap.size + 1 = w3.heap.size + 1) := by omega
    have hl2 : w.heap.size + 1 < w3.heap.size + 1 := by omega
    clear hz0 hz1 hz3
    go_wp2_with fail
    obtain ⟨w4, hw4⟩ : ∃ w4, w4 = (w3.alloc (.cells #[.bool true, .func (.func 29) #[] #[], .func (.func 28) #[] #[]] 53)).alloc (.cells #[.int .i64 Y, .int .i64 H, .int .i64 X, .int .i64 W, .bool false] 36) := ⟨_, rfl⟩
    rw [← hw4]
    have M0 := Aside0.mk (hw4 ▸ blk_alloc (blk_alloc J0.out _) _)
    have M1 := Aside0.mk (hw4 ▸ blk_alloc (blk_alloc J1.out _) _)
    have M2 := Aside0.mk (hw4 ▸ blk_alloc (blk_alloc J2.out _) _)
    have M3 := Aside0.mk (hw4 ▸ blk_alloc (blk_new w3 (.cells #[.bool true, .func (.func 29) #[] #[], .func (.func 28) #[] #[]] 53)) _)
    have M4 := Aside0.mk (hw4 ▸ blk_new1 w3 (.cells #[.bool true, .func (.func 29) #[] #[], .func (.func 28) #[] #[]] 53) (.cells #[.int .i64 Y, .int .i64 H, .int .i64 X, .int .i64 W, .bool false] 36))
    have HB4 := Aside0.mk (hw4 ▸ below_alloc (below_alloc HB2.out _) _)
    have hz := Aside0.mk hl1
    have hz4 := Aside0.mk (below_size HB4.out)
    clear hw4 J0 J1 J2 HB2 dX dY dW dH hn0 hn1 hl0 hl1 hn2 hl2
    generalize w3.heap.size = g3 at *
    obtain ⟨g4, hg4⟩ : ∃ g4, g4 = g3 + 1 := ⟨_, rfl⟩
    rw [← hg4] at M4 ⊢
    have ne4 : ¬ (w.heap.size + 1 = g4) := by have := hz.out; omega
    have ne5 : ¬ (w.heap.size = g4) := by have := hz.out; omega
    have ne6 : ¬ (g3 = g4) := by omega
    have ne7 : ¬ (w.heap.size + 1 + 1 = g4) := by have := hz.out; have := blk_lt M2.out; omega
    have ge4 := Aside0.mk (show w.heap.size ≤ g4 by have := hz.out; omega)
    clear hg4
    have dX : w4.cell? ⟨w.heap.size + 1, 0, none⟩ = some (.int .i64 X) := (blk_cell M1.out 0).trans rfl
    have dY : w4.cell? ⟨w.heap.size + 1, 1, none⟩ = some (.int .i64 Y) := (blk_cell M1.out 1).trans rfl
    have dW : w4.cell? ⟨w.heap.size + 1, 2, none⟩ = some (.int .i64 W) := (blk_cell M1.out 2).trans rfl
    have dH : w4.cell? ⟨w.heap.size + 1, 3, none⟩ = some (.int .i64 H) := (blk_cell M1.out 3).trans rfl
    have s0 : w4.cell? ⟨g4, 0, none⟩ = some (.int .i64 Y) := (blk_cell M4.out 0).trans rfl
    have s1 : w4.cell? ⟨g4, 1, none⟩ = some (.int .i64 H) := (blk_cell M4.out 1).trans rfl
    have s2 : w4.cell? ⟨g4, 2, none⟩ = some (.int .i64 X) := (blk_cell M4.out 2).trans rfl
    have s3 : w4.cell? ⟨g4, 3, none⟩ = some (.int .i64 W) := (blk_cell M4.out 3).trans rfl
    have z0 := blk_frozen M4.out 0
    have z1 := blk_frozen M4.out 1
    have z2 := blk_frozen M4.out 2
    have z3 := blk_frozen M4.out 3
    go_wp2
    go_region_held3 (fun w' => w'.cell? ⟨w.heap.size + 1, 0, none⟩ = some (.int .i64 X) ∧ w'.cell? ⟨w.heap.size + 1, 1, none⟩ = some (.int .i64 Y) ∧ w'.cell? ⟨w.heap.size + 1, 2, none⟩ = some (.int .i64 W) ∧ w'.cell? ⟨w.heap.size + 1, 3, none⟩ = some (.int .i64 H))
      (first | assumption | (refine ⟨?_, ?_, ?_, ?_⟩ <;> (refine Eq.trans (cell_far (p := ⟨g4, _, none⟩) ne4 _) ?_; assumption)) | (go_split_ands; refine ⟨?_, ?_, ?_, ?_⟩ <;> (refine Eq.trans (cell_far (p := ⟨g4, _, none⟩) ne4 _) ?_; assumption)) | go_keep)
      (first | fail)
    clear dX dY dW dH s0 s1 s2 s3 z0 z1 z2 z3
    obtain ⟨w5, hw5⟩ : ∃ w5, w5 = ((((w4.setCell ⟨g4, 0, none⟩ (.int .i64 X)).setCell ⟨g4, 1, none⟩ (.int .i64 W)).setCell ⟨g4, 2, none⟩ (.int .i64 Y)).setCell ⟨g4, 3, none⟩ (.int .i64 H)).drew := ⟨_, rfl⟩
    rw [← hw5]
    have N0 := Aside0.mk (hw5 ▸ blk_drew (blk_far (p := ⟨g4, 3, none⟩) (blk_far (p := ⟨g4, 2, none⟩) (blk_far (p := ⟨g4, 1, none⟩) (blk_far (p := ⟨g4, 0, none⟩) M0.out ne5 _) ne5 _) ne5 _) ne5 _))
    have N2 := Aside0.mk (hw5 ▸ blk_drew (blk_far (p := ⟨g4, 3, none⟩) (blk_far (p := ⟨g4, 2, none⟩) (blk_far (p := ⟨g4, 1, none⟩) (blk_far (p := ⟨g4, 0, none⟩) M2.out ne7 _) ne7 _) ne7 _) ne7 _))
    have N3 := Aside0.mk (hw5 ▸ blk_drew (blk_far (p := ⟨g4, 3, none⟩) (blk_far (p := ⟨g4, 2, none⟩) (blk_far (p := ⟨g4, 1, none⟩) (blk_far (p := ⟨g4, 0, none⟩) M3.out ne6 _) ne6 _) ne6 _) ne6 _))
    have N4 := Aside0.mk (hw5 ▸ blk_drew (blk_put (blk_put (blk_put (blk_put M4.out 0 (.int .i64 X) rfl) 1 (.int .i64 W) rfl) 2 (.int .i64 Y) rfl) 3 (.int .i64 H) rfl))
    have HB5 := Aside0.mk (hw5 ▸ below_drew (below_set (below_set (below_set (below_set HB4.out ge4.out) ge4.out) ge4.out) ge4.out))
    clear hw5 M0 M1 M2 M3 M4 HB4 hz hz4
    have pL : w5.cell? ⟨w.heap.size, 0, none⟩ = some (.int .i64 L) := (blk_cell N0.out 0).trans rfl
    have pC : w5.cell? ⟨w.heap.size, 1, none⟩ = some (.int .i64 C) := (blk_cell N0.out 1).trans rfl
    have q1 : w5.cell? ⟨g3, 1, none⟩ = some (.func (.func 29) #[] #[]) := (blk_cell N3.out 1).trans rfl
    have q2 : w5.cell? ⟨g3, 2, none⟩ = some (.func (.func 28) #[] #[]) := (blk_cell N3.out 2).trans rfl
    have b0 : w5.cell? ⟨g4, 0, none⟩ = some (.int .i64 X) := (blk_cell N4.out 0).trans rfl
    have b1 : w5.cell? ⟨g4, 1, none⟩ = some (.int .i64 W) := (blk_cell N4.out 1).trans rfl
    have b2 : w5.cell? ⟨g4, 2, none⟩ = some (.int .i64 Y) := (blk_cell N4.out 2).trans rfl
    have b3 : w5.cell? ⟨g4, 3, none⟩ = some (.int .i64 H) := (blk_cell N4.out 3).trans rfl
    have b4 : w5.cell? ⟨g4, 4, none⟩ = some (.bool false) := (blk_cell N4.out 4).trans rfl
    have z0 := blk_frozen N4.out 0
    have z2 := blk_frozen N4.out 2
    have lg4 := blk_lt N4.out
    have hp := fun wx => back_any L C X W wx x1 x3 h2 x2 x4
    have hq := fun wx => forward_any L C Y H false wx
    go_wp2
    refine wp_region_M 19 (fun w' => w'.cell? ⟨w.heap.size, 0, none⟩ = some (.int .i64 L) ∧ w'.cell? ⟨w.heap.size, 1, none⟩ = some (.int .i64 C) ∧ w'.cell? ⟨g3, 1, none⟩ = some (.func (.func 29) #[] #[]) ∧ w'.cell? ⟨g3, 2, none⟩ = some (.func (.func 28) #[] #[]) ∧ w'.cell? ⟨g4, 1, none⟩ = some (.int .i64 W) ∧ w'.cell? ⟨g4, 3, none⟩ = some (.int .i64 H) ∧ w'.cell? ⟨g4, 4, none⟩ = some (.bool false)) (fun w' => w'.cell? ⟨g4, 0, none⟩ = some (.int .i64 X) ∧ w'.cell? ⟨g4, 2, none⟩ = some (.int .i64 Y)) (by kernel_rfl) ⟨pL, pC, q1, q2, b1, b3, b4⟩ ⟨b0, b2⟩ (fun _ => ?_)
    refine wpM_takeB (i := 0) (v := ?_) rfl (by kernel_rfl) (by kernel_rfl) (by kernel_rfl) (by kernel_rfl) (fun _ _ _ h => h) (Or.inl ⟨by rfl, ?_⟩) ⟨⟨pL, pC, q1, q2, b1, b3, b4⟩, fun _ => ⟨b0, b2⟩⟩ (fun _ => ?_)
    rotate_left 1
    · intro w_ hSw; (try dsimp only at hSw); go_simp; (try with_reducible rfl)
    try simp only [Act.put, List.setIfInBounds_toArray, List.set_cons_zero, List.set_cons_succ]
    refine wpM_takeB (i := 1) (v := ?_) rfl (by kernel_rfl) (by kernel_rfl) (by kernel_rfl) (by kernel_rfl) (fun _ _ _ h => h) (Or.inl ⟨by rfl, ?_⟩) ⟨⟨pL, pC, q1, q2, b1, b3, b4⟩, fun _ => ⟨b0, b2⟩⟩ (fun _ => ?_)
    rotate_left 1
    · intro w_ hSw; (try dsimp only at hSw); go_simp; (try with_reducible rfl)
    try simp only [Act.put, List.setIfInBounds_toArray, List.set_cons_zero, List.set_cons_succ]
    refine wpM_takeB (i := 2) (v := ?_) rfl (by kernel_rfl) (by kernel_rfl) (by kernel_rfl) (by kernel_rfl) (fun _ _ _ h => h) (Or.inl ⟨by rfl, ?_⟩) ⟨⟨pL, pC, q1, q2, b1, b3, b4⟩, fun _ => ⟨b0, b2⟩⟩ (fun _ => ?_)
    rotate_left 1
    · intro w_ hSw; (try dsimp only at hSw); go_simp; (try with_reducible rfl)
    try simp only [Act.put, List.setIfInBounds_toArray, List.set_cons_zero, List.set_cons_succ]
    refine wpM_takeB (i := 3) (v := ?_) rfl (by kernel_rfl) (by kernel_rfl) (by kernel_rfl) (by kernel_rfl) (fun _ _ _ h => h) (Or.inl ⟨by rfl, ?_⟩) ⟨⟨pL, pC, q1, q2, b1, b3, b4⟩, fun _ => ⟨b0, b2⟩⟩ (fun _ => ?_)
    rotate_left 1
    · intro w_ hSw; (try dsimp only at hSw); go_simp; (try with_reducible rfl)
    try simp only [Act.put, List.setIfInBounds_toArray, List.set_cons_zero, List.set_cons_succ]
    refine wpM_take (i := 4) (v := ?_) rfl (by kernel_rfl) (by kernel_rfl) (by kernel_rfl) (by kernel_rfl) (fun _ _ _ h => h) (Or.inl ⟨by rfl, ?_⟩) ⟨⟨pL, pC, q1, q2, b1, b3, b4⟩, fun _ => ⟨b0, b2⟩⟩ (fun _ => ?_)
    rotate_left 1
    · intro w_ hSw; (try dsimp only at hSw); go_simp; (try with_reducible rfl)
    try simp only [Act.put, List.setIfInBounds_toArray, List.set_cons_zero, List.set_cons_succ]
    refine wpM_takeB (i := 5) (v := ?_) rfl (by kernel_rfl) (by kernel_rfl) (by kernel_rfl) (by kernel_rfl) (fun _ _ _ h => h) (Or.inl ⟨by rfl, ?_⟩) ⟨⟨pL, pC, q1, q2, b1, b3, b4⟩, fun _ => ⟨b0, b2⟩⟩ (fun _ => ?_)
    rotate_left 1
    · intro w_ hSw; (try dsimp only at hSw); go_simp; (try with_reducible rfl)
    try simp only [Act.put, List.setIfInBounds_toArray, List.set_cons_zero, List.set_cons_succ]
    refine wpM_takeB (i := 6) (v := ?_) rfl (by kernel_rfl) (by kernel_rfl) (by kernel_rfl) (by kernel_rfl) (fun _ _ _ h => h) (Or.inl ⟨by rfl, ?_⟩) ⟨⟨pL, pC, q1, q2, b1, b3, b4⟩, fun _ => ⟨b0, b2⟩⟩ (fun _ => ?_)
    rotate_left 1
    · intro w_ hSw; (try dsimp only at hSw); go_simp; (try with_reducible rfl)
    try simp only [Act.put, List.setIfInBounds_toArray, List.set_cons_zero, List.set_cons_succ]
    refine wpM_takeB (i := 8) (v := ?_) rfl (by kernel_rfl) (by kernel_rfl) (by kernel_rfl) (by kernel_rfl) (fun _ _ _ h => h) (Or.inl ⟨by rfl, ?_⟩) ⟨⟨pL, pC, q1, q2, b1, b3, b4⟩, fun _ => ⟨b0, b2⟩⟩ (fun _ => ?_)
    rotate_left 1
    · intro w_ hSw; (try dsimp only at hSw); go_simp; (try with_reducible rfl)
    try simp only [Act.put, List.setIfInBounds_toArray, List.set_cons_zero, List.set_cons_succ]
    refine wpM_takeB (i := 9) (v := ?_) rfl (by kernel_rfl) (by kernel_rfl) (by kernel_rfl) (by kernel_rfl) (fun _ _ _ h => h) (Or.inl ⟨by rfl, ?_⟩) ⟨⟨pL, pC, q1, q2, b1, b3, b4⟩, fun _ => ⟨b0, b2⟩⟩ (fun _ => ?_)
    rotate_left 1
    · intro w_ hSw; (try dsimp only at hSw); go_simp; (try with_reducible rfl)
    try simp only [Act.put, List.setIfInBounds_toArray, List.set_cons_zero, List.set_cons_succ]
    refine wpM_takeB (i := 10) (v := ?_) rfl (by kernel_rfl) (by kernel_rfl) (by kernel_rfl) (by kernel_rfl) (fun _ _ _ h => h) (Or.inl ⟨by rfl, ?_⟩) ⟨⟨pL, pC, q1, q2, b1, b3, b4⟩, fun _ => ⟨b0, b2⟩⟩ (fun _ => ?_)
    rotate_left 1
    · intro w_ hSw; (try dsimp only at hSw); go_simp; (try with_reducible rfl)
    try simp only [Act.put, List.setIfInBounds_toArray, List.set_cons_zero, List.set_cons_succ]
    refine wpM_takeB (i := 11) (v := ?_) rfl (by kernel_rfl) (by kernel_rfl) (by kernel_rfl) (by kernel_rfl) (fun _ _ _ h => h) (Or.inl ⟨by rfl, ?_⟩) ⟨⟨pL, pC, q1, q2, b1, b3, b4⟩, fun _ => ⟨b0, b2⟩⟩ (fun _ => ?_)
    rotate_left 1
    · intro w_ hSw; (try dsimp only at hSw); go_simp; (try with_reducible rfl)
    try simp only [Act.put, List.setIfInBounds_toArray, List.set_cons_zero, List.set_cons_succ]
    refine wpM_take (i := 12) (v := ?_) rfl (by kernel_rfl) (by kernel_rfl) (by kernel_rfl) (by kernel_rfl) (fun _ _ _ h => h) (Or.inl ⟨by rfl, ?_⟩) ⟨⟨pL, pC, q1, q2, b1, b3, b4⟩, fun _ => ⟨b0, b2⟩⟩ (fun _ => ?_)
    rotate_left 1
    · intro w_ hSw; (try dsimp only at hSw); go_simp; (try with_reducible rfl)
    try simp only [Act.put, List.setIfInBounds_toArray, List.set_cons_zero, List.set_cons_succ]
    refine wpM_takeB (i := 13) (v := ?_) rfl (by kernel_rfl) (by kernel_rfl) (by kernel_rfl) (by kernel_rfl) (fun _ _ _ h => h) (Or.inl ⟨by rfl, ?_⟩) ⟨⟨pL, pC, q1, q2, b1, b3, b4⟩, fun _ => ⟨b0, b2⟩⟩ (fun _ => ?_)
    rotate_left 1
    · intro w_ hSw; (try dsimp only at hSw); go_simp; (try with_reducible rfl)
    try simp only [Act.put, List.setIfInBounds_toArray, List.set_cons_zero, List.set_cons_succ]
    refine wpM_takeB (i := 14) (v := ?_) rfl (by kernel_rfl) (by kernel_rfl) (by kernel_rfl) (by kernel_rfl) (fun _ _ _ h => h) (Or.inl ⟨by rfl, ?_⟩) ⟨⟨pL, pC, q1, q2, b1, b3, b4⟩, fun _ => ⟨b0, b2⟩⟩ (fun _ => ?_)
    rotate_left 1
    · intro w_ hSw; (try dsimp only at hSw); go_simp; (try with_reducible rfl)
    try simp only [Act.put, List.setIfInBounds_toArray, List.set_cons_zero, List.set_cons_succ]
    refine wpM_takeB (i := 15) (v := ?_) rfl (by kernel_rfl) (by kernel_rfl) (by kernel_rfl) (by kernel_rfl) (fun _ _ _ h => h) (Or.inl ⟨by rfl, ?_⟩) ⟨⟨pL, pC, q1, q2, b1, b3, b4⟩, fun _ => ⟨b0, b2⟩⟩ (fun _ => ?_)
    rotate_left 1
    · intro w_ hSw; (try dsimp only at hSw); go_simp; (try with_reducible rfl)
    try simp only [Act.put, List.setIfInBounds_toArray, List.set_cons_zero, List.set_cons_succ]
    refine wpM_takeB (i := 16) (v := ?_) rfl (by kernel_rfl) (by kernel_rfl) (by kernel_rfl) (by kernel_rfl) (fun _ _ _ h => h) (Or.inl ⟨by rfl, ?_⟩) ⟨⟨pL, pC, q1, q2, b1, b3, b4⟩, fun _ => ⟨b0, b2⟩⟩ (fun _ => ?_)
    rotate_left 1
    · intro w_ hSw; (try dsimp only at hSw); go_simp; (try with_reducible rfl)
    try simp only [Act.put, List.setIfInBounds_toArray, List.set_cons_zero, List.set_cons_succ]
    refine wpM_one (i := 7) (by kernel_rfl) rfl (fun K hK => ?_)
    go_simp
    refine (hp _).mono ?_
    rintro e w6 ⟨rfl, rfl⟩
    (try go_wp2_with fail)
    refine hK.out _ _ ⟨⟨(blk_cell (blk_alloc (blk_drew N0.out) _) 0).trans rfl, (blk_cell (blk_alloc (blk_drew N0.out) _) 1).trans rfl, (blk_cell (blk_alloc (blk_drew N3.out) _) 1).trans rfl, (blk_cell (blk_alloc (blk_drew N3.out) _) 2).trans rfl, (blk_cell (blk_alloc (blk_drew N4.out) _) 1).trans rfl, (blk_cell (blk_alloc (blk_drew N4.out) _) 3).trans rfl, (blk_cell (blk_alloc (blk_drew N4.out) _) 4).trans rfl⟩, fun _ => ⟨(blk_cell (blk_alloc (blk_drew N4.out) _) 0).trans rfl, (blk_cell (blk_alloc (blk_drew N4.out) _) 2).trans rfl⟩⟩ (fun _ => ?_)
    clear hK K
    try simp only [Act.put, List.setIfInBounds_toArray, List.set_cons_zero, List.set_cons_succ]
    refine wpM_world (fun w' => w'.heap[w.heap.size]? = some (.cells #[.int .i64 L, .int .i64 C] 23 (0, 0)) ∧ w'.heap[w.heap.size + 1 + 1]? = some (.cells #[.int .i64 0, .int .i64 0, .int .i64 0, .int .i64 0, .bool false] 36 (0, 0)) ∧ w'.heap[g3]? = some (.cells #[.bool true, .func (.func 29) #[] #[], .func (.func 28) #[] #[]] 53 (0, 0)) ∧ w'.heap[g4]? = some (.cells #[.int .i64 X, .int .i64 W, .int .i64 Y, .int .i64 H, .bool false] 36 (0, 0)) ∧ Below w.heap.size w w') ⟨blk_alloc (blk_drew N0.out) _, blk_alloc (blk_drew N2.out) _, blk_alloc (blk_drew N3.out) _, blk_alloc (blk_drew N4.out) _, below_alloc (below_drew HB5.out) _⟩ ?_
    rintro w6 ⟨A0, A2, A3, A4, AB⟩
    have N06 := Aside0.mk A0
    have N26 := Aside0.mk A2
    have N36 := Aside0.mk A3
    have N46 := Aside0.mk A4
    have NB6 := Aside0.mk AB
    clear A0 A2 A3 A4 AB
    clear N0 N2 N3 N4 HB5 pL pC q1 q2 b0 b1 b2 b3 b4 z0 z2 lg4 hp
    refine wpM_takeB (i := 18) (v := ?_) rfl (by kernel_rfl) (by kernel_rfl) (by kernel_rfl) (by kernel_rfl) (fun _ _ _ h => h) (Or.inl ⟨by rfl, ?_⟩) ⟨⟨(blk_cell N06.out 0).trans rfl, (blk_cell N06.out 1).trans rfl, (blk_cell N36.out 1).trans rfl, (blk_cell N36.out 2).trans rfl, (blk_cell N46.out 1).trans rfl, (blk_cell N46.out 3).trans rfl, (blk_cell N46.out 4).trans rfl⟩, fun _ => ⟨(blk_cell N46.out 0).trans rfl, (blk_cell N46.out 2).trans rfl⟩⟩ (fun _ => ?_)
    rotate_left 1
    · intro w_ hSw; (try dsimp only at hSw); go_simp; (try with_reducible rfl)
    try simp only [Act.put, List.setIfInBounds_toArray, List.set_cons_zero, List.set_cons_succ]
    refine wpM_one (i := 17) (by kernel_rfl) rfl (fun K hK => ?_)
    go_simp
    refine (hq _).mono ?_
    rintro e w7 ⟨rfl, rfl⟩
    (try go_wp2_with fail)
    refine hK.out _ _ ⟨⟨(blk_cell (blk_alloc N06.out _) 0).trans rfl, (blk_cell (blk_alloc N06.out _) 1).trans rfl, (blk_cell (blk_alloc N36.out _) 1).trans rfl, (blk_cell (blk_alloc N36.out _) 2).trans rfl, (blk_cell (blk_alloc N46.out _) 1).trans rfl, (blk_cell (blk_alloc N46.out _) 3).trans rfl, (blk_cell (blk_alloc N46.out _) 4).trans rfl⟩, fun _ => ⟨(blk_cell (blk_alloc N46.out _) 0).trans rfl, (blk_cell (blk_alloc N46.out _) 2).trans rfl⟩⟩ (fun _ => ?_)
    clear hK K
    try simp only [Act.put, List.setIfInBounds_toArray, List.set_cons_zero, List.set_cons_succ]
    refine wpM_world (fun w' => w'.heap[w.heap.size]? = some (.cells #[.int .i64 L, .int .i64 C] 23 (0, 0)) ∧ w'.heap[w.heap.size + 1 + 1]? = some (.cells #[.int .i64 0, .int .i64 0, .int .i64 0, .int .i64 0, .bool false] 36 (0, 0)) ∧ w'.heap[g3]? = some (.cells #[.bool true, .func (.func 29) #[] #[], .func (.func 28) #[] #[]] 53 (0, 0)) ∧ w'.heap[g4]? = some (.cells #[.int .i64 X, .int .i64 W, .int .i64 Y, .int .i64 H, .bool false] 36 (0, 0)) ∧ Below w.heap.size w w') ⟨blk_alloc N06.out _, blk_alloc N26.out _, blk_alloc N36.out _, blk_alloc N46.out _, below_alloc NB6.out _⟩ ?_
    rintro w7 ⟨A0, A2, A3, A4, AB⟩
    have N07 := Aside0.mk A0
    have N27 := Aside0.mk A2
    have N37 := Aside0.mk A3
    have N47 := Aside0.mk A4
    have NB7 := Aside0.mk AB
    clear A0 A2 A3 A4 AB
    clear N06 N26 N36 N46 NB6 hq
    have b0 : w7.cell? ⟨g4, 0, none⟩ = some (.int .i64 X) := (blk_cell N47.out 0).trans rfl
    have z0 := blk_frozen N47.out 0
    refine wpM_one (i := 19) (by kernel_rfl) rfl (fun K hK => ?_)
    go_simp
    refine hK.out _ _ ⟨⟨(blk_cell (blk_far (p := ⟨g4, 0, none⟩) N07.out ne5 _) 0).trans rfl, (blk_cell (blk_far (p := ⟨g4, 0, none⟩) N07.out ne5 _) 1).trans rfl, (blk_cell (blk_far (p := ⟨g4, 0, none⟩) N37.out ne6 _) 1).trans rfl, (blk_cell (blk_far (p := ⟨g4, 0, none⟩) N37.out ne6 _) 2).trans rfl, (blk_cell (blk_put N47.out 0 (.int .i64 (L - X - W)) rfl) 1).trans rfl, (blk_cell (blk_put N47.out 0 (.int .i64 (L - X - W)) rfl) 3).trans rfl, (blk_cell (blk_put N47.out 0 (.int .i64 (L - X - W)) rfl) 4).trans rfl⟩, fun h_ => absurd h_ (by decide)⟩ (fun _ => ?_)
    clear hK K
    try simp only [Act.put, List.setIfInBounds_toArray, List.set_cons_zero, List.set_cons_succ]
    refine wpM_world (fun w' => w'.heap[w.heap.size]? = some (.cells #[.int .i64 L, .int .i64 C] 23 (0, 0)) ∧ w'.heap[w.heap.size + 1 + 1]? = some (.cells #[.int .i64 0, .int .i64 0, .int .i64 0, .int .i64 0, .bool false] 36 (0, 0)) ∧ w'.heap[g3]? = some (.cells #[.bool true, .func (.func 29) #[] #[], .func (.func 28) #[] #[]] 53 (0, 0)) ∧ w'.heap[g4]? = some (.cells #[.int .i64 (L - X - W), .int .i64 W, .int .i64 Y, .int .i64 H, .bool false] 36 (0, 0)) ∧ Below w.heap.size w w') ⟨blk_far (p := ⟨g4, 0, none⟩) N07.out ne5 _, blk_far (p := ⟨g4, 0, none⟩) N27.out ne7 _, blk_far (p := ⟨g4, 0, none⟩) N37.out ne6 _, blk_put N47.out 0 (.int .i64 (L - X - W)) rfl, below_set NB7.out ge4.out⟩ ?_
    rintro w8 ⟨A0, A2, A3, A4, AB⟩
    have N08 := Aside0.mk A0
    have N28 := Aside0.mk A2
    have N38 := Aside0.mk A3
    have N48 := Aside0.mk A4
    have NB8 := Aside0.mk AB
    clear A0 A2 A3 A4 AB
    clear N07 N27 N37 N47 NB7 b0 z0
    refine wpM_takeB (i := 20) (v := ?_) rfl (by kernel_rfl) (by kernel_rfl) (by kernel_rfl) (by kernel_rfl) (fun _ _ _ h => h) (Or.inl ⟨by rfl, ?_⟩) ⟨⟨(blk_cell N08.out 0).trans rfl, (blk_cell N08.out 1).trans rfl, (blk_cell N38.out 1).trans rfl, (blk_cell N38.out 2).trans rfl, (blk_cell N48.out 1).trans rfl, (blk_cell N48.out 3).trans rfl, (blk_cell N48.out 4).trans rfl⟩, fun h_ => absurd h_ (by decide)⟩ (fun _ => ?_)
    rotate_left 1
    · intro w_ hSw; (try dsimp only at hSw); go_simp; (try with_reducible rfl)
    try simp only [Act.put, List.setIfInBounds_toArray, List.set_cons_zero, List.set_cons_succ]
    have b2 : w8.cell? ⟨g4, 2, none⟩ = some (.int .i64 Y) := (blk_cell N48.out 2).trans rfl
    have z2 := blk_frozen N48.out 2
    refine wpM_one (i := 21) (by kernel_rfl) rfl (fun K hK => ?_)
    go_simp
    refine hK.out _ _ ⟨⟨(blk_cell (blk_far (p := ⟨g4, 2, none⟩) N08.out ne5 _) 0).trans rfl, (blk_cell (blk_far (p := ⟨g4, 2, none⟩) N08.out ne5 _) 1).trans rfl, (blk_cell (blk_far (p := ⟨g4, 2, none⟩) N38.out ne6 _) 1).trans rfl, (blk_cell (blk_far (p := ⟨g4, 2, none⟩) N38.out ne6 _) 2).trans rfl, (blk_cell (blk_put N48.out 2 (.int .i64 (Y)) rfl) 1).trans rfl, (blk_cell (blk_put N48.out 2 (.int .i64 (Y)) rfl) 3).trans rfl, (blk_cell (blk_put N48.out 2 (.int .i64 (Y)) rfl) 4).trans rfl⟩, fun h_ => absurd h_ (by decide)⟩ (fun _ => ?_)
    clear hK K
    try simp only [Act.put, List.setIfInBounds_toArray, List.set_cons_zero, List.set_cons_succ]
    refine wpM_world (fun w' => w'.heap[w.heap.size]? = some (.cells #[.int .i64 L, .int .i64 C] 23 (0, 0)) ∧ w'.heap[w.heap.size + 1 + 1]? = some (.cells #[.int .i64 0, .int .i64 0, .int .i64 0, .int .i64 0, .bool false] 36 (0, 0)) ∧ w'.heap[g3]? = some (.cells #[.bool true, .func (.func 29) #[] #[], .func (.func 28) #[] #[]] 53 (0, 0)) ∧ w'.heap[g4]? = some (.cells #[.int .i64 (L - X - W), .int .i64 W, .int .i64 (Y), .int .i64 H, .bool false] 36 (0, 0)) ∧ Below w.heap.size w w') ⟨blk_far (p := ⟨g4, 2, none⟩) N08.out ne5 _, blk_far (p := ⟨g4, 2, none⟩) N28.out ne7 _, blk_far (p := ⟨g4, 2, none⟩) N38.out ne6 _, blk_put N48.out 2 (.int .i64 (Y)) rfl, below_set NB8.out ge4.out⟩ ?_
    rintro w9 ⟨A0, A2, A3, A4, AB⟩
    have N09 := Aside0.mk A0
    have N29 := Aside0.mk A2
    have N39 := Aside0.mk A3
    have N49 := Aside0.mk A4
    have NB9 := Aside0.mk AB
    clear A0 A2 A3 A4 AB
    clear N08 N28 N38 N48 NB8 b2 z2
    refine wpM_done (by kernel_rfl) ?_ _
    have r0 : w9.cell? ⟨g4, 0, none⟩ = some (.int .i64 (L - X - W)) := (blk_cell N49.out 0).trans rfl
    have r1 : w9.cell? ⟨g4, 1, none⟩ = some (.int .i64 (W)) := (blk_cell N49.out 1).trans rfl
    have r2 : w9.cell? ⟨g4, 2, none⟩ = some (.int .i64 (Y)) := (blk_cell N49.out 2).trans rfl
    have r3 : w9.cell? ⟨g4, 3, none⟩ = some (.int .i64 (H)) := (blk_cell N49.out 3).trans rfl
    have r4 : w9.cell? ⟨g4, 4, none⟩ = some (.bool false) := (blk_cell N49.out 4).trans rfl
    have s0 : w9.cell? ⟨w.heap.size + 1 + 1, 0, none⟩ = some (.int .i64 0) := (blk_cell N29.out 0).trans rfl
    have y0 := blk_frozen N29.out 0
    have s1 : w9.cell? ⟨w.heap.size + 1 + 1, 1, none⟩ = some (.int .i64 0) := (blk_cell N29.out 1).trans rfl
    have y1 := blk_frozen N29.out 1
    have s2 : w9.cell? ⟨w.heap.size + 1 + 1, 2, none⟩ = some (.int .i64 0) := (blk_cell N29.out 2).trans rfl
    have y2 := blk_frozen N29.out 2
    have s3 : w9.cell? ⟨w.heap.size + 1 + 1, 3, none⟩ = some (.int .i64 0) := (blk_cell N29.out 3).trans rfl
    have y3 := blk_frozen N29.out 3
    have s4 : w9.cell? ⟨w.heap.size + 1 + 1, 4, none⟩ = some (.bool false) := (blk_cell N29.out 4).trans rfl
    have y4 := blk_frozen N29.out 4
    go_wp2
    refine bodyPost_ret (v := .tuple #[.agg #[.int .i64 (L - X - W), .int .i64 W, .int .i64 (Y), .int .i64 H, .bool false], .int .i64 0]) (by simp [results, Try.results14, go_sem, s0, s1, s2, s3, s4]) rfl ⟨rfl, ?_⟩
    repeat (refine below_set ?_ (show _ ≤ _ by omega))
    exact NB9.out
end Go.Proofs.Ytfaaahchcghnlaa.P
