/- The pure side of the law FillLines: at every things, cells and pair its Lean function answers true. -/
import Derived.Test.YteeoomenncocpaaP18
import Derived.Test.YteeoomenncocpaaPureLines
namespace Go.Proofs.Yteeoomenncocpaa.Pure
open Go.RowKit Go.Proofs.Yteeoomenncocpaa.P Go.Proofs.YteeoomenncocpaaW.PrintWords Go.Proofs.YteeoomenncocpaaW.PrintLast Go.Proofs.YteeoomenncocpaaW.PrintMore
set_option linter.unusedVariables false
set_option linter.unusedSimpArgs false

theorem rdT50 (x : List S50) (i : Nat) (h : i < x.length) : rd_T50 x (i : Int) = x[i] := by
  unfold rd_T50
  simp [List.getD_eq_getElem?_getD, List.getElem?_eq_getElem h]
theorem rdconv (x : List S32) (j : Nat) (hj : j < x.length) : rd_T50 (x.map conv) (j : Int) = conv (rd_T32 x (j : Int)) := by
  rw [rdT50 (x.map conv) j (by rw [List.length_map]; exact hj), rdT x j hj, List.getElem_map]
theorem same_l0 (x : List S32) (hx : x.length ≤ 1048577) (d : Nat) : ∀ (j k : Nat), x.length - j = d → d + 1 ≤ k → frisketlaw17_same.l0 k x (x.map conv) j = some true := by
  induction d with
  | zero =>
    intro j k hd hk
    obtain ⟨k, rfl⟩ : ∃ q, k = q + 1 := ⟨k - 1, by omega⟩
    simp only [frisketlaw17_same.l0]
    rw [if_neg (by omega)]
  | succ d ih =>
    intro j k hd hk
    obtain ⟨k, rfl⟩ : ∃ q, k = q + 1 := ⟨k - 1, by omega⟩
    have hj : j < x.length := by omega
    have e2 : wrap64 ((j : Int) + 1) = ((j + 1 : Nat) : Int) := by rw [w64 (by omega) (by omega)]; omega
    simp only [frisketlaw17_same.l0]
    rw [if_pos (by omega), if_pos (by omega), if_pos (by rw [List.length_map]; omega), rdconv x j hj, e2]
    simp only [conv, if_true, bne_self_eq_false, Bool.false_eq_true, if_false]
    exact ih (j + 1) k (by omega) (by omega)
theorem refOf_l0 (x : List S32) (a : Int) (hx : x.length ≤ 1048577) (d : Nat) : ∀ (j k : Nat), x.length - j = d → d + 1 ≤ k → frisketref17_Of.l0 k (x.map conv) a j = some (idxL a (x.drop j) j) := by
  induction d with
  | zero =>
    intro j k hd hk
    obtain ⟨k, rfl⟩ : ∃ q, k = q + 1 := ⟨k - 1, by omega⟩
    simp only [frisketref17_Of.l0]
    rw [if_neg (by rw [List.length_map]; omega), List.drop_eq_nil_of_le (by omega)]
    rfl
  | succ d ih =>
    intro j k hd hk
    obtain ⟨k, rfl⟩ : ∃ q, k = q + 1 := ⟨k - 1, by omega⟩
    have hj : j < x.length := by omega
    have e2 : wrap64 ((j : Int) + 1) = ((j + 1 : Nat) : Int) := by rw [w64 (by omega) (by omega)]; omega
    have e3 : ((j : Int) + 1) = ((j + 1 : Nat) : Int) := by omega
    simp only [frisketref17_Of.l0]
    rw [if_pos (by rw [List.length_map]; omega), if_pos (by omega), rdconv x j hj, e2, ih (j + 1) k (by omega) (by omega), idxL_at a x j hj, e3]
    obtain ⟨y, hy⟩ : ∃ y, rd_T32 x (j : Int) = y := ⟨_, rfl⟩
    rw [hy]
    by_cases g1 : a ≥ (conv y).f0
    · have g1' : y.f0 ≤ a := g1
      rw [if_pos g1]
      by_cases g2 : a < (conv y).f1
      · have g2' : a < y.f1 := g2
        rw [if_pos g2, if_pos (by simp [inL, g1', g2'])]
      · have g2' : ¬ a < y.f1 := g2
        rw [if_neg g2, if_neg (by simp [inL, g2'])]
    · have g1' : ¬ y.f0 ≤ a := g1
      rw [if_neg g1, if_neg (by simp [inL, g1'])]
theorem fits_l0 {l0 l1 : List Int} {c : Int} (hk : Ok l0 l1 c) (hl : l0.length ≤ 1048576) (a b : Int) (ha : 0 ≤ a) (hab : a ≤ b) (hb : b ≤ (l0.length : Int)) (d : Nat) : ∀ (n : Int) (j k : Nat), (b - a).toNat - j = d → j ≤ (b - a).toNat → 0 ≤ n → n ≤ 1048576 * j → d + 1 ≤ k →
    fill_Fits.l0 k a b c n ((l0.take b.toNat).drop a.toNat) (((l0.take b.toNat).drop a.toNat).length : Int) j = if b = a + 1 then some true else some (decide (n + sumP l0 c d (a + j) ≤ c)) := by
  have hlen : ((l0.take b.toNat).drop a.toNat).length = (b - a).toNat := by rw [List.length_drop, List.length_take]; omega
  induction d with
  | zero =>
    intro n j k hd hj hn hn2 hkk
    obtain ⟨k, rfl⟩ : ∃ q, k = q + 1 := ⟨k - 1, by omega⟩
    simp only [fill_Fits.l0]
    rw [if_neg (by omega), w64 (by omega) (by omega)]
    simp [sumP]
  | succ d ih =>
    intro n j k hd hj hn hn2 hkk
    obtain ⟨k, rfl⟩ : ∃ q, k = q + 1 := ⟨k - 1, by omega⟩
    have h2 := mn_b (hk.r (a + j) (by omega) (by omega)) hk.c1
    have h3 := hk.c2
    have er : rd ((l0.take b.toNat).drop a.toNat) j = rd l0 (a + j) := by
      unfold rd
      have e : (a + (j : Int)).toNat = a.toNat + j := by omega
      rw [e, Int.toNat_natCast, List.getD_eq_getElem?_getD, List.getD_eq_getElem?_getD, List.getElem?_drop, List.getElem?_take, if_pos (by omega)]
    have e5 : a + ((j + 1 : Nat) : Int) = a + j + 1 := by omega
    obtain ⟨x, hx⟩ : ∃ x, mn (rd l0 (a + j)) c = x := ⟨_, rfl⟩
    rw [hx] at h2
    have h5 := ih (n + x) (j + 1) k (by omega) (by omega) (by omega) (by omega) (by omega)
    rw [e5] at h5
    have p1 : (j : Int) < (((l0.take b.toNat).drop a.toNat).length : Int) := by omega
    have p0 : (0 : Int) ≤ (j : Int) := by omega
    have e1 : wrap64 (n + x) = n + x := w64 (by omega) (by omega)
    have e2 : wrap64 ((j : Int) + 1) = ((j + 1 : Nat) : Int) := (w64 (by omega) (by omega)).trans (by omega)
    simp only [fill_Fits.l0]
    rw [if_pos p1, if_pos p0, if_pos p1, er, hx, e1, e2, h5, sumP, hx, Int.add_assoc n]
theorem fits_eq {l0 l1 : List Int} {c : Int} (hk : Ok l0 l1 c) (hl : l0.length ≤ 1048576) (a b : Int) (k : Nat) (hkk : l0.length + 5 ≤ k) : ∃ r, fill_Fits.f k l0 a b c = some r ∧ frisketref17_Fits.f k l0 a b c = some r := by
  obtain ⟨k, rfl⟩ : ∃ q, k = q + 1 := ⟨k - 1, by omega⟩
  have h1 := hk.c1
  by_cases g0 : a < 0
  · exact ⟨false, by simp [fill_Fits.f, fill_Fits.j0, g0], by simp [frisketref17_Fits.f, g0]⟩
  · by_cases g1 : a ≥ b
    · exact ⟨false, by simp [fill_Fits.f, fill_Fits.j0, g0, g1], by simp [frisketref17_Fits.f, g0, g1]⟩
    · by_cases g2 : b > (l0.length : Int)
      · exact ⟨false, by simp [fill_Fits.f, fill_Fits.j0, g0, g1, g2], by simp [frisketref17_Fits.f, g0, g1, g2]⟩
      · refine ⟨_, ?_, refFits hk hl a b (by omega) (by omega) (by omega) (k + 1) (by omega)⟩
        unfold fill_Fits.f
        rw [if_neg g0, if_neg g1, if_neg g2, decide_eq_false (by omega)]
        simp only [fill_Fits.j0]
        rw [if_neg (by decide), if_pos (by omega), if_pos (by omega), if_pos (by omega)]
        have := fits_l0 hk hl a b (by omega) (by omega) (by omega) (b - a).toNat 0 0 k (by omega) (by omega) (by omega) (by omega) (by omega)
        simp only [Int.natCast_zero, Int.ofNat_zero, Int.add_zero, Int.zero_add] at this
        refine this.trans ?_
        by_cases h : b = a + 1
        · rw [if_pos h]; simp [h]
        · rw [if_neg h]; simp [h]
theorem FillLines : ∀ (l0_0 : List Int) (l0_1 : List Int) (a0_2 : Int) (a1_0 : Int) (a1_1 : Int), l0_0.length ≤ maxLen → (∀ e ∈ l0_0, (Lit.int .i64 e).wf = true) → l0_1.length ≤ maxLen → (∀ e ∈ l0_1, (Lit.int .i64 e).wf = true) → (Lit.int .i64 a0_2).wf = true → (Lit.int .i64 a1_0).wf = true → (Lit.int .i64 a1_1).wf = true → ∃ k, frisketlaw17_FillLines.f k l0_0 l0_1 a0_2 a1_0 a1_1 = some true := by
  intro l0 l1 c p q _ _ _ _ _ _ _
  obtain ⟨K, hK⟩ : ∃ K : Nat, 900 ≤ K := ⟨900, Nat.le_refl _⟩
  refine ⟨K + 4, ?_⟩
  obtain ⟨b, hb, hb'⟩ := small_some l0 l1 c (K + 4) (by omega)
  unfold frisketlaw17_FillLines.f
  rw [hb, Option.bind_some]
  cases b with
  | false => rw [if_neg (by decide), alive17]; rfl
  | true =>
    obtain ⟨hs0, hs1⟩ := hb' rfl
    rw [if_pos rfl]
    have hl : l0.length ≤ 1048576 := by omega
    rcases lines_total (c := c) hl (show l1.length ≤ 1048576 by omega) with ⟨hr, hf⟩ | ⟨hk, hr, x, hx, hf⟩
    · have hL : frisketref17_Lines.f (K + 4) l0 l1 c = some ([], 1) := by
        unfold frisketref17_Lines.f
        rw [refRight l0 l1 c hl _ (by omega), hr]
        rfl
      rw [hf, Option.bind_some, hL, Option.bind_some]
      simp only
      have hsame : frisketlaw17_same.f (K + 4) [] [] = some true := by simp [frisketlaw17_same.f, frisketlaw17_same.l0]
      have h1 : fill_Of.f [] p = some (-1) := by simp [fill_Of.f, idxL]
      have h2 : frisketref17_Of.f (K + 4) [] p = some (-1) := by simp [frisketref17_Of.f, frisketref17_Of.l0]
      rw [hsame, Option.bind_some, if_pos rfl, if_pos trivial, h1, Option.bind_some, h2, Option.bind_some]
      simp [frisketlaw17_FillLines.j0, alive17]
    · have hxl := linesN_len (Int.le_refl 0) hx
      have hL : frisketref17_Lines.f (K + 4) l0 l1 c = some (x.map conv, 0) := by
        unfold frisketref17_Lines.f
        rw [refRight l0 l1 c hl _ (by omega), hr, Option.bind_some, if_pos rfl, refLines_l0 hk hl _ 0 x [] _ (by omega) hx (by simp; omega) (by omega)]
        simp
      rw [hf, Option.bind_some, hL, Option.bind_some]
      simp only
      have hsame : frisketlaw17_same.f (K + 4) x (x.map conv) = some true := by
        unfold frisketlaw17_same.f
        rw [if_pos (by rw [List.length_map])]
        exact same_l0 x (by omega) x.length 0 _ (by omega) (by omega)
      have h1 : fill_Of.f x p = some (idxL p x 0) := by unfold fill_Of.f; rw [if_pos (by omega)]
      have h2 : frisketref17_Of.f (K + 4) (x.map conv) p = some (idxL p x 0) := by
        have := refOf_l0 x p (by omega) x.length 0 (K + 4) (by omega) (by omega)
        unfold frisketref17_Of.f
        simpa using this
      rw [hsame, Option.bind_some, if_pos rfl, if_pos trivial, h1, Option.bind_some, h2, Option.bind_some]
      obtain ⟨r, f1, f2⟩ := fits_eq hk hl p q (K + 3) (by omega)
      simp [frisketlaw17_FillLines.j0, alive17, f1, f2]
end Go.Proofs.Yteeoomenncocpaa.Pure
