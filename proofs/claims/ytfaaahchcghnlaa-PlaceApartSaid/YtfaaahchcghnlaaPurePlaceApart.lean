/- The pure side of the law PlaceApart: at every page, mode and two boxes its Lean function answers true. -/
import Derived.Test.YtfaaahchcghnlaaP25
import Derived.Test.YtfaaahchcghnlaaPureBase
namespace Go.Proofs.Ytfaaahchcghnlaa.Pure
open Go.RowKit Go.Proofs.Ytfaaahchcghnlaa.P Go.Proofs.YtfaaahchcghnlaaW.PrintWords Go.Proofs.YtfaaahchcghnlaaW.PrintLast
set_option linter.unusedVariables false
set_option linter.unusedSimpArgs false

theorem apart_j (A D G N A' D' G' N' X Y W H X' Y' W' H' : Int) (R : Bool) (u1 : wrap64 (A + D) = A + D) (u2 : wrap64 (A' + D') = A' + D') (u3 : wrap64 (G + N) = G + N) (u4 : wrap64 (G' + N') = G' + N')
    (v1 : wrap64 (X + W) = X + W) (v2 : wrap64 (X' + W') = X' + W') (v3 : wrap64 (Y + H) = Y + H) (v4 : wrap64 (Y' + H') = Y' + H')
    (h : (X + W ≤ X' ∨ X' + W' ≤ X ∨ Y + H ≤ Y' ∨ Y' + H' ≤ Y) ↔ (A + D ≤ A' ∨ A' + D' ≤ A ∨ G + N ≤ G' ∨ G' + N' ≤ G)) :
    frisketlaw19_PlaceApart.j0 1 false A D G N R A' D' G' N' R X Y W H X' Y' W' H' = some true := by
  simp only [frisketlaw19_PlaceApart.j0, u1, u2, u3, u4, v1, v2, v3, v4, alive19, Option.bind_some]
  by_cases p1 : A + D ≤ A' <;> by_cases p2 : A' + D' ≤ A <;> by_cases p3 : G + N ≤ G' <;> by_cases p4 : G' + N' ≤ G <;> by_cases q1 : X + W ≤ X' <;> by_cases q2 : X' + W' ≤ X <;> by_cases q3 : Y + H ≤ Y' <;> by_cases q4 : Y' + H' ≤ Y <;> simp [p1, p2, p3, p4, q1, q2, q3, q4] at h ⊢
theorem cells_of (L C m A D G N : Int) (R : Bool) : place_Cells.f L C m A D G N R = some (0, 0, 0, 0, 191) ∨
    (P.Good L C m ∧ FitsB L C A D G N ∧ place_Cells.f L C m A D G N R = (if m = 1 then some (L - A - D, G, D, N, 0) else if m = 2 then some (A, G, D, N, 0) else if m = 3 then some (trn R C G N, A, N, D, 0) else some (G, A, N, D, 0))) := by
  unfold place_Cells.f
  by_cases h : P.Good L C m ∧ FitsB L C A D G N
  · exact .inr ⟨h.1, h.2, by rw [if_pos h]⟩
  · exact .inl (by rw [if_neg h])
theorem PlaceApart : ∀ (a0_0 : Int) (a0_1 : Int) (a0_2 : Int) (a1_0 : Int) (a1_1 : Int) (a1_2 : Int) (a1_3 : Int) (a1_4 : Bool) (a2_0 : Int) (a2_1 : Int) (a2_2 : Int) (a2_3 : Int) (a2_4 : Bool), (Lit.int .i64 a0_0).wf = true → (Lit.int .i64 a0_1).wf = true → (Lit.int .i64 a0_2).wf = true → (Lit.int .i64 a1_0).wf = true → (Lit.int .i64 a1_1).wf = true → (Lit.int .i64 a1_2).wf = true → (Lit.int .i64 a1_3).wf = true → (Lit.int .i64 a2_0).wf = true → (Lit.int .i64 a2_1).wf = true → (Lit.int .i64 a2_2).wf = true → (Lit.int .i64 a2_3).wf = true → ∃ k, frisketlaw19_PlaceApart.f k a0_0 a0_1 a0_2 a1_0 a1_1 a1_2 a1_3 a1_4 a2_0 a2_1 a2_2 a2_3 a2_4 = some true := by
  intro L C m A D G N R A' D' G' N' R' _ _ _ _ _ _ _ _ _ _ _
  refine ⟨1, ?_⟩
  unfold frisketlaw19_PlaceApart.f
  rcases cells_of L C m A D G N R with h | ⟨hg, hf, h⟩
  · rcases cells_of L C m A' D' G' N' R with h' | ⟨hg', hf', h'⟩
    · simp [frisketlaw19_box.f, h, h', frisketlaw19_PlaceApart.j0, alive19]
    · obtain ⟨_, _, _, _, hm⟩ := hg'
      rcases hm with rfl | rfl | rfl | rfl <;> simp at h' <;> simp [frisketlaw19_box.f, h, h', frisketlaw19_PlaceApart.j0, alive19]
  · rcases cells_of L C m A' D' G' N' R with h' | ⟨hg', hf', h'⟩
    · obtain ⟨_, _, _, _, hm⟩ := hg
      rcases hm with rfl | rfl | rfl | rfl <;> simp at h <;> simp [frisketlaw19_box.f, h, h', frisketlaw19_PlaceApart.j0, alive19]
    · obtain ⟨g1, g2, g3, g4, hm⟩ := hg
      obtain ⟨⟨a1, a2, a3, a4⟩, b1, b2, b3, b4⟩ := hf
      obtain ⟨⟨c1, c2, c3, c4⟩, d1, d2, d3, d4⟩ := hf'
      have u1 : wrap64 (A + D) = A + D := w64 (by omega) (by omega)
      have u2 : wrap64 (A' + D') = A' + D' := w64 (by omega) (by omega)
      have u3 : wrap64 (G + N) = G + N := w64 (by omega) (by omega)
      have u4 : wrap64 (G' + N') = G' + N' := w64 (by omega) (by omega)
      rcases hm with rfl | rfl | rfl | rfl
      · simp at h h'
        simp only [frisketlaw19_box.f, Option.bind_some, h, h', if_true]
        exact apart_j _ _ _ _ _ _ _ _ _ _ _ _ _ _ _ _ _ u1 u2 u3 u4 u3 u4 u1 u2 (by omega)
      · simp at h h'
        simp only [frisketlaw19_box.f, Option.bind_some, h, h', if_true]
        exact apart_j _ _ _ _ _ _ _ _ _ _ _ _ _ _ _ _ _ u1 u2 u3 u4 (w64 (by omega) (by omega)) (w64 (by omega) (by omega)) u3 u4 (by omega)
      · simp at h h'
        simp only [frisketlaw19_box.f, Option.bind_some, h, h', if_true]
        exact apart_j _ _ _ _ _ _ _ _ _ _ _ _ _ _ _ _ _ u1 u2 u3 u4 u1 u2 u3 u4 (by omega)
      · simp at h h'
        simp only [frisketlaw19_box.f, Option.bind_some, h, h', if_true]
        cases R
        · simp only [trn]
          exact apart_j _ _ _ _ _ _ _ _ _ _ _ _ _ _ _ _ _ u1 u2 u3 u4 u3 u4 u1 u2 (by simp; omega)
        · simp only [trn, if_true]
          exact apart_j _ _ _ _ _ _ _ _ _ _ _ _ _ _ _ _ _ u1 u2 u3 u4 (w64 (by omega) (by omega)) (w64 (by omega) (by omega)) u1 u2 (by omega)
end Go.Proofs.Ytfaaahchcghnlaa.Pure
