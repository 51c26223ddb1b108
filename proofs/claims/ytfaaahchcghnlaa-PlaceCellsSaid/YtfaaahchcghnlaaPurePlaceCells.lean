/- The pure side of the law PlaceCells: at every page, mode, line and cell its Lean function answers true. -/
import Derived.Test.YtfaaahchcghnlaaP26
import Derived.Test.YtfaaahchcghnlaaPureBase
namespace Go.Proofs.Ytfaaahchcghnlaa.Pure
open Go.RowKit Go.Proofs.Ytfaaahchcghnlaa.P Go.Proofs.YtfaaahchcghnlaaW.PrintWords Go.Proofs.YtfaaahchcghnlaaW.PrintLast
set_option linter.unusedVariables false
set_option linter.unusedSimpArgs false

theorem PlaceCells : ∀ (a0_0 : Int) (a0_1 : Int) (a0_2 : Int) (a1 : Int) (a2 : Int), (Lit.int .i64 a0_0).wf = true → (Lit.int .i64 a0_1).wf = true → (Lit.int .i64 a0_2).wf = true → (Lit.int .i64 a1).wf = true → (Lit.int .i64 a2).wf = true → frisketlaw19_PlaceCells.f a0_0 a0_1 a0_2 a1 a2 = some true := by
  intro L C m A G _ _ _ _ _
  by_cases h : P.Good L C m ∧ FitsB L C A 1 G 1
  · obtain ⟨hg, hf⟩ := h
    obtain ⟨⟨a1, a2, a3, a4⟩, b1, b2, b3, b4⟩ := hf
    have hf : FitsB L C A 1 G 1 := ⟨⟨a1, a2, a3, a4⟩, b1, b2, b3, b4⟩
    have hg' := hg
    obtain ⟨g1, g2, g3, g4, hm⟩ := hg'
    have hc : ∀ R, place_Cells.f L C m A 1 G 1 R = (if m = 1 then some (L - A - 1, G, 1, 1, 0) else if m = 2 then some (A, G, 1, 1, 0) else if m = 3 then some (trn R C G 1, A, 1, 1, 0) else some (G, A, 1, 1, 0)) := fun R => by
      unfold place_Cells.f
      rw [if_pos ⟨hg, hf⟩]
    unfold frisketlaw19_PlaceCells.f place_At.f
    rw [hc, hc, alive19]
    have i1 : InB (L - A - 1) 1 L := ⟨by omega, by omega, by omega, by omega⟩
    have i2 : InB A 1 L := ⟨by omega, by omega, by omega, by omega⟩
    have i3 : InB G 1 C := ⟨by omega, by omega, by omega, by omega⟩
    have i4 : InB (C - G - 1) 1 C := ⟨by omega, by omega, by omega, by omega⟩
    have e1 : L - (L - A - 1) - 1 = A := by omega
    have e2 : wrap64 (wrap64 (C - 1) - G) = C - 1 - G := by rw [w64 (a := C - 1) (by omega) (by omega), w64 (by omega) (by omega)]
    have e3 : C - G - 1 = C - 1 - G := by omega
    rcases hm with rfl | rfl | rfl | rfl
    · simp [place_Of.f, hg, i1, i2, i3, i4, e1, e2, trn]
    · simp [place_Of.f, hg, i1, i2, i3, i4, e1, e2, trn]
    · simp [place_Of.f, hg, i1, i2, i3, i4, e1, e2, trn]
    · simp [place_Of.f, hg, i1, i2, i3, i4, e1, e2, trn]
      exact e3
  · have hc : ∀ R, place_Cells.f L C m A 1 G 1 R = some (0, 0, 0, 0, 191) := fun R => by
      unfold place_Cells.f
      rw [if_neg h]
    unfold frisketlaw19_PlaceCells.f
    rw [hc, alive19]
    simp
end Go.Proofs.Ytfaaahchcghnlaa.Pure
