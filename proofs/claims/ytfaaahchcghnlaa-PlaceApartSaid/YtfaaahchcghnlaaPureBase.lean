/- Plain facts on the pages' Lean functions; no condition. -/
import Derived.Test.YtfaaahchcghnlaaP16
import Derived.Test.YtfaaahchcghnlaaP11
import Derived.Test.YtfaaahchcghnlaaP9
import Derived.Test.YtfaaahchcghnlaaP15
import Derived.Test.YtfaaahchcghnlaaP18
import Derived.Test.YtfaaahchcghnlaaP17
import Derived.Test.YtfaaahchcghnlaaHPlace
import Derived.Test.YtfaaahchcghnlaaOp
namespace Go.Proofs.Ytfaaahchcghnlaa.Pure
open Go.RowKit Go.Proofs.Ytfaaahchcghnlaa.P Go.Proofs.YtfaaahchcghnlaaW.PrintWords Go.Proofs.YtfaaahchcghnlaaW.PrintLast
set_option linter.unusedVariables false
set_option linter.unusedSimpArgs false

theorem alive19 : frisketlaw19_alive.f = some true := by decide +kernel
theorem w64 {a : Int} (h : -9223372036854775808 ≤ a) (h' : a ≤ 9223372036854775807) : wrap64 a = a := by unfold wrap64; omega
theorem right_eq (L C m : Int) : frisketref19_right.f L C m = some (decide (P.Good L C m)) := by
  unfold frisketref19_right.f P.Good
  by_cases h1 : 1 ≤ L
  · by_cases h2 : L ≤ 60
    · by_cases h3 : 1 ≤ C
      · by_cases h4 : C ≤ 60
        · by_cases h5 : 0 ≤ m
          · by_cases h6 : m ≤ 3
            · have : m = 0 ∨ m = 1 ∨ m = 2 ∨ m = 3 := by omega
              simp [h1, h2, h3, h4, h5, h6, this]
            · have : ¬ (m = 0 ∨ m = 1 ∨ m = 2 ∨ m = 3) := by omega
              simp [h1, h2, h3, h4, h5, h6, this]
          · have : ¬ (m = 0 ∨ m = 1 ∨ m = 2 ∨ m = 3) := by omega
            simp [h1, h2, h3, h4, h5, this]
        · simp [h1, h2, h3, h4]
      · simp [h1, h2, h3]
    · simp [h1, h2]
  · simp [h1]
theorem refInside_some (a n all : Int) : ∃ b, frisketref19_inside.f a n all = some b := by
  unfold frisketref19_inside.f
  split
  · split
    · split <;> exact ⟨_, rfl⟩
    · exact ⟨_, rfl⟩
  · exact ⟨_, rfl⟩
theorem refInside_eq (a n all : Int) (h : all ≤ 60) : frisketref19_inside.f a n all = some (decide (InB a n all)) := by
  have := inside_some a n all h
  unfold place_inside.f at this
  unfold frisketref19_inside.f InB
  exact this
theorem fits_iff (L C A D G N : Int) : FitsB L C A D G N ↔ InB A D L ∧ InB G N C := Iff.rfl
theorem refCells_eq (k : Nat) (L C m A D G N : Int) (R : Bool) : frisketref19_Cells.f (k + 1) L C m A D G N R = place_Cells.f L C m A D G N R := by
  unfold frisketref19_Cells.f place_Cells.f
  rw [right_eq]
  by_cases hg : P.Good L C m
  · rw [refInside_eq _ _ _ hg.2.1, refInside_eq _ _ _ hg.2.2.2.1]
    simp only [Option.bind_some, decide_eq_true hg, if_true, decide_eq_true_eq]
    by_cases h1 : InB A D L
    · rw [if_pos h1]
      by_cases h2 : InB G N C
      · rw [if_pos ⟨hg, h1, h2⟩]
        obtain ⟨a1, a2, a3, a4⟩ := h1
        obtain ⟨b1, b2, b3, b4⟩ := h2
        obtain ⟨g1, g2, g3, g4, hm⟩ := hg
        have e1 : wrap64 (wrap64 (L - A) - D) = L - A - D := by rw [w64 (a := L - A) (by omega) (by omega), w64 (by omega) (by omega)]
        have e2 : wrap64 (wrap64 (C - G) - N) = C - G - N := by rw [w64 (a := C - G) (by omega) (by omega), w64 (by omega) (by omega)]
        have d2 : decide (InB G N C) = true := decide_eq_true ⟨b1, b2, b3, b4⟩
        simp only [frisketref19_Cells.j0, d2, e1, e2, trn]
        rcases hm with rfl | rfl | rfl | rfl
        · simp
        · simp
        · simp
        · cases R <;> simp
      · rw [if_neg (fun h => h2 h.2.2), decide_eq_false h2]
        simp [frisketref19_Cells.j0]
    · rw [if_neg h1, if_neg (fun h => h1 h.2.1)]
      simp [frisketref19_Cells.j0]
  · obtain ⟨b1, e1⟩ := refInside_some A D L
    obtain ⟨b2, e2⟩ := refInside_some G N C
    rw [e1, e2, if_neg (fun h => hg h.1)]
    simp [decide_eq_false hg, frisketref19_Cells.j0]
theorem refSides_eq (L C m : Int) : frisketref19_Sides.f L C m = place_Sides.f L C m := by
  unfold frisketref19_Sides.f place_Sides.f frisketref19_columns.f
  rw [right_eq]
  by_cases hg : P.Good L C m
  · simp only [Option.bind_some, decide_eq_true hg, if_true, if_pos hg]
    by_cases h1 : m = 1
    · simp [h1]
    · by_cases h2 : m = 2 <;> simp [h1, h2]
  · simp [decide_eq_false hg, if_neg hg]
end Go.Proofs.Ytfaaahchcghnlaa.Pure
