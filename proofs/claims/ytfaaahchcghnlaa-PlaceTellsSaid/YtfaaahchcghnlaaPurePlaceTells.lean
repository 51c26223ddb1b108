/- The pure side of the law PlaceTells: at every page, mode and box its Lean function answers true. -/
import Derived.Test.YtfaaahchcghnlaaP19
import Derived.Test.YtfaaahchcghnlaaPureBase
namespace Go.Proofs.Ytfaaahchcghnlaa.Pure
open Go.RowKit Go.Proofs.Ytfaaahchcghnlaa.P Go.Proofs.YtfaaahchcghnlaaW.PrintWords Go.Proofs.YtfaaahchcghnlaaW.PrintLast
set_option linter.unusedVariables false

theorem sides_some (L C m : Int) : ∃ r, place_Sides.f L C m = some r := by
  unfold place_Sides.f
  split
  · split <;> exact ⟨_, rfl⟩
  · exact ⟨_, rfl⟩
theorem cells_some (L C m A D G N : Int) (R : Bool) : ∃ r, place_Cells.f L C m A D G N R = some r := by
  unfold place_Cells.f
  split
  · split
    · exact ⟨_, rfl⟩
    · split
      · exact ⟨_, rfl⟩
      · split <;> exact ⟨_, rfl⟩
  · exact ⟨_, rfl⟩
theorem PlaceTells : ∀ (a0_0 : Int) (a0_1 : Int) (a0_2 : Int) (a1_0 : Int) (a1_1 : Int) (a1_2 : Int) (a1_3 : Int) (a1_4 : Bool), (Lit.int .i64 a0_0).wf = true → (Lit.int .i64 a0_1).wf = true → (Lit.int .i64 a0_2).wf = true → (Lit.int .i64 a1_0).wf = true → (Lit.int .i64 a1_1).wf = true → (Lit.int .i64 a1_2).wf = true → (Lit.int .i64 a1_3).wf = true → ∃ k, frisketlaw19_PlaceTells.f k a0_0 a0_1 a0_2 a1_0 a1_1 a1_2 a1_3 a1_4 = some true := by
  intro L C m A D G N R _ _ _ _ _ _ _
  obtain ⟨⟨r1, r2, r3⟩, hs⟩ := sides_some L C m
  obtain ⟨⟨q1, q2, q3, q4, q5⟩, hc⟩ := cells_some L C m A D G N R
  refine ⟨1, ?_⟩
  unfold frisketlaw19_PlaceTells.f
  rw [refSides_eq, refCells_eq 0, hs, alive19]
  simp only [Option.bind_some, frisketlaw19_box.f, hc]
  simp
end Go.Proofs.Ytfaaahchcghnlaa.Pure
