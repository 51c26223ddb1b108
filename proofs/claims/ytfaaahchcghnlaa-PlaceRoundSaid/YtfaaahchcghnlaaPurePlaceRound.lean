/- The pure side of the law PlaceRound: at every page, mode and box its Lean function answers true. -/
import Derived.Test.YtfaaahchcghnlaaP24
import Derived.Test.YtfaaahchcghnlaaPureBase
namespace Go.Proofs.Ytfaaahchcghnlaa.Pure
open Go.RowKit Go.Proofs.Ytfaaahchcghnlaa.P Go.Proofs.YtfaaahchcghnlaaW.PrintWords Go.Proofs.YtfaaahchcghnlaaW.PrintLast
set_option linter.unusedVariables false
set_option linter.unusedSimpArgs false

theorem mul_b {a b : Int} (h0 : 0 ≤ a) (h1 : a ≤ 60) (h2 : 0 ≤ b) (h3 : b ≤ 60) : wrap64 (a * b) = a * b := by
  have l : 0 ≤ a * b := Int.mul_nonneg h0 h2
  have u : a * b ≤ 60 * 60 := Int.mul_le_mul h1 h3 h2 (by omega)
  exact w64 (by omega) (by omega)
theorem PlaceRound : ∀ (a0_0 : Int) (a0_1 : Int) (a0_2 : Int) (a1_0 : Int) (a1_1 : Int) (a1_2 : Int) (a1_3 : Int) (a1_4 : Bool), (Lit.int .i64 a0_0).wf = true → (Lit.int .i64 a0_1).wf = true → (Lit.int .i64 a0_2).wf = true → (Lit.int .i64 a1_0).wf = true → (Lit.int .i64 a1_1).wf = true → (Lit.int .i64 a1_2).wf = true → (Lit.int .i64 a1_3).wf = true → frisketlaw19_PlaceRound.f a0_0 a0_1 a0_2 a1_0 a1_1 a1_2 a1_3 a1_4 = some true := by
  intro L C m A D G N R _ _ _ _ _ _ _
  by_cases h : P.Good L C m ∧ FitsB L C A D G N
  · obtain ⟨hg, hf⟩ := h
    obtain ⟨⟨a1, a2, a3, a4⟩, b1, b2, b3, b4⟩ := hf
    have hf : FitsB L C A D G N := ⟨⟨a1, a2, a3, a4⟩, b1, b2, b3, b4⟩
    have hg' := hg
    obtain ⟨g1, g2, g3, g4, hm⟩ := hg'
    have hc : place_Cells.f L C m A D G N R = (if m = 1 then some (L - A - D, G, D, N, 0) else if m = 2 then some (A, G, D, N, 0) else if m = 3 then some (trn R C G N, A, N, D, 0) else some (G, A, N, D, 0)) := by
      unfold place_Cells.f
      rw [if_pos ⟨hg, hf⟩]
    have i1 : InB (L - A - D) D L := ⟨by omega, by omega, by omega, by omega⟩
    have i2 : InB A D L := ⟨by omega, by omega, by omega, by omega⟩
    have i3 : InB G N C := ⟨by omega, by omega, by omega, by omega⟩
    have i4 : InB (C - G - N) N C := ⟨by omega, by omega, by omega, by omega⟩
    have e1 : L - (L - A - D) - D = A := by omega
    have e4 : C - (C - G - N) - N = G := by omega
    have m1 : wrap64 (D * N) = D * N := mul_b (by omega) (by omega) (by omega) (by omega)
    have m2 : wrap64 (N * D) = D * N := by rw [Int.mul_comm]; exact m1
    have m3 : wrap64 (L * C) = L * C := mul_b (by omega) (by omega) (by omega) (by omega)
    have m4 : wrap64 (C * L) = L * C := by rw [Int.mul_comm]; exact m3
    have s1 : wrap64 (L - A - D + D) = L - A := by rw [w64 (by omega) (by omega)]; omega
    have s2 : wrap64 (A + D) = A + D := w64 (by omega) (by omega)
    have s3 : wrap64 (G + N) = G + N := w64 (by omega) (by omega)
    have s4 : wrap64 (C - G - N + N) = C - G := by rw [w64 (by omega) (by omega)]; omega
    have t1 : L - A ≤ L := by omega
    have t2 : A + D ≤ L := by omega
    have t3 : G + N ≤ C := by omega
    have t4 : C - G ≤ C := by omega
    have t5 : 0 ≤ L - A - D := by omega
    have t6 : 0 ≤ C - G - N := by omega
    unfold frisketlaw19_PlaceRound.f place_Sides.f
    rw [alive19]
    simp only [frisketlaw19_box.f, Option.bind_some, hc, if_pos hg]
    rcases hm with rfl | rfl | rfl | rfl
    · cases R <;> simp [place_Of.f, hg, i1, i2, i3, i4, e1, e4, trn, a4, b4, (w64 (a := L - A) (by omega) (by omega)), (w64 (a := C - G) (by omega) (by omega)), m1, m2, m3, m4, s1, s2, s3, s4, t1, t2, t3, t4, t5, t6, a1, a2, b1, b2]
    · cases R <;> simp [place_Of.f, hg, i1, i2, i3, i4, e1, e4, trn, a4, b4, (w64 (a := L - A) (by omega) (by omega)), (w64 (a := C - G) (by omega) (by omega)), m1, m2, m3, m4, s1, s2, s3, s4, t1, t2, t3, t4, t5, t6, a1, a2, b1, b2]
    · cases R <;> simp [place_Of.f, hg, i1, i2, i3, i4, e1, e4, trn, a4, b4, (w64 (a := L - A) (by omega) (by omega)), (w64 (a := C - G) (by omega) (by omega)), m1, m2, m3, m4, s1, s2, s3, s4, t1, t2, t3, t4, t5, t6, a1, a2, b1, b2]
    · cases R <;> simp [place_Of.f, hg, i1, i2, i3, i4, e1, e4, trn, a4, b4, (w64 (a := L - A) (by omega) (by omega)), (w64 (a := C - G) (by omega) (by omega)), m1, m2, m3, m4, s1, s2, s3, s4, t1, t2, t3, t4, t5, t6, a1, a2, b1, b2]
  · have hc : place_Cells.f L C m A D G N R = some (0, 0, 0, 0, 191) := by
      unfold place_Cells.f
      rw [if_neg h]
    unfold frisketlaw19_PlaceRound.f
    simp only [frisketlaw19_box.f, Option.bind_some, hc, alive19]
    simp
end Go.Proofs.Ytfaaahchcghnlaa.Pure
