/- The document's lines are the program's lines, in plain Lean. -/
import Derived.Test.YteeoomenncocpaaP14
import Derived.Test.YteeoomenncocpaaP17
import Derived.Test.YteeoomenncocpaaP15
import Derived.Test.YteeoomenncocpaaP16
import Derived.Test.YteeoomenncocpaaP12
import Derived.Test.YteeoomenncocpaaP11
import Derived.Test.YteeoomenncocpaaP13
import Derived.Test.YteeoomenncocpaaP10
import Derived.Test.YteeoomenncocpaaPureBase
namespace Go.Proofs.Yteeoomenncocpaa.Pure
open Go.RowKit Go.Proofs.Yteeoomenncocpaa.P Go.Proofs.YteeoomenncocpaaW.PrintWords Go.Proofs.YteeoomenncocpaaW.PrintLast Go.Proofs.YteeoomenncocpaaW.PrintMore
set_option linter.unusedVariables false
set_option linter.unusedSimpArgs false

theorem rd_at (l : List Int) (i : Nat) (h : i < l.length) : rd l (i : Int) = l[i] := by
  unfold rd
  simp [List.getD_eq_getElem?_getD, List.getElem?_eq_getElem h]
theorem right_l0 (l0 l1 : List Int) (he : (l0.length : Int) = (l1.length : Int)) (hl : l0.length ≤ 1048576) (d : Nat) : ∀ (i k : Nat), l0.length - i = d → d + 1 ≤ k →
    frisketref17_right.l0 k l0 l1 i = some (!((l0.drop i).any badR || (l1.drop i).any badE)) := by
  induction d with
  | zero =>
    intro i k hd hk
    obtain ⟨k, rfl⟩ : ∃ q, k = q + 1 := ⟨k - 1, by omega⟩
    simp only [frisketref17_right.l0]
    rw [if_neg (by omega), List.drop_eq_nil_of_le (by omega), List.drop_eq_nil_of_le (by omega)]
    rfl
  | succ d ih =>
    intro i k hd hk
    obtain ⟨k, rfl⟩ : ∃ q, k = q + 1 := ⟨k - 1, by omega⟩
    have h0 : i < l0.length := by omega
    have h1 : i < l1.length := by omega
    have e2 : wrap64 ((i : Int) + 1) = ((i + 1 : Nat) : Int) := by rw [w64 (by omega) (by omega)]; omega
    simp only [frisketref17_right.l0]
    rw [if_pos (by omega), if_pos (by omega), if_pos (show (i : Int) < (l1.length : Int) by omega), rd_at l0 i h0, rd_at l1 i h1, e2, ih (i + 1) k (by omega) (by omega), List.drop_eq_getElem_cons h0, List.drop_eq_getElem_cons h1]
    simp only [List.any_cons]
    by_cases g1 : l0[i] < 1
    · simp [badR, g1]
    · rw [if_neg g1]
      by_cases g2 : l1[i] < 0
      · simp [badE, g2]
      · rw [if_neg g2]
        by_cases g3 : l1[i] > 2
        · rw [if_pos g3]; simp [badE, show (2 : Int) < l1[i] from g3]
        · rw [if_neg g3]; simp [badR, badE, g1, g2, show ¬ (2 : Int) < l1[i] from g3]
theorem refRight (l0 l1 : List Int) (c : Int) (hl : l0.length ≤ 1048576) (k : Nat) (hk : l0.length + 2 ≤ k) : frisketref17_right.f k l0 l1 c = some (rightF l0 l1 c) := by
  obtain ⟨k, rfl⟩ : ∃ q, k = q + 1 := ⟨k - 1, by omega⟩
  unfold frisketref17_right.f rightF
  by_cases h1 : (l0.length : Int) = (l1.length : Int)
  · rw [if_pos h1]
    by_cases h2 : c < 1
    · rw [if_pos h2]; simp [frisketref17_right.j0, show ¬ 1 ≤ c by omega]
    · rw [if_neg h2]
      by_cases h3 : c > 1048576
      · simp [frisketref17_right.j0, h3, show ¬ c ≤ 1048576 by omega]
      · have := right_l0 l0 l1 h1 hl l0.length 0 k (by omega) (by omega)
        simp only [Int.ofNat_zero, Int.natCast_zero, List.drop_zero] at this
        simp [frisketref17_right.j0, h1, show c ≤ 1048576 by omega, show 1 ≤ c by omega, show ¬ 1048576 < c by omega]
        simpa using this
  · rw [if_neg h1]
    have h1' : ¬ l0.length = l1.length := fun h => h1 (by rw [h])
    simp [frisketref17_right.j0, h1']
    exact fun h => absurd h h1
/-- What d things from i on come to. -/
def sumP (l : List Int) (c : Int) : Nat → Int → Int
  | 0, _ => 0
  | d + 1, i => mn (rd l i) c + sumP l c d (i + 1)
theorem sumP_snoc (l : List Int) (c : Int) : ∀ (d : Nat) (i : Int), sumP l c (d + 1) i = sumP l c d i + mn (rd l (i + d)) c
  | 0, i => by simp [sumP]
  | d + 1, i => by
    rw [sumP, sumP_snoc l c d (i + 1), sumP]
    have e : i + 1 + (d : Int) = i + ((d + 1 : Nat) : Int) := by omega
    rw [e]
    omega
theorem sumP_b {l0 l1 : List Int} {c : Int} (hk : Ok l0 l1 c) : ∀ (d : Nat) (i : Int), 0 ≤ i → i + d ≤ (l0.length : Int) → (d : Int) ≤ sumP l0 c d i ∧ sumP l0 c d i ≤ d * 1048576
  | 0, i, _, _ => by simp [sumP]
  | d + 1, i, hi, h => by
    have h1 := sumP_b hk d (i + 1) (by omega) (by omega)
    have h2 := mn_b (hk.r i hi (by omega)) hk.c1
    have h3 := hk.c2
    simp only [sumP]
    omega
theorem refSum_l0 {l0 l1 : List Int} {c : Int} (hk : Ok l0 l1 c) (hl : l0.length ≤ 1048576) (b : Int) (hb : b ≤ (l0.length : Int)) (d : Nat) : ∀ (i n : Int) (k : Nat), 0 ≤ i → b - i = d → 0 ≤ n → n ≤ 1048576 * i → d + 1 ≤ k →
    frisketref17_sum.l0 k l0 b c n i = some (n + sumP l0 c d i) := by
  induction d with
  | zero =>
    intro i n k hi hd hn hn2 hkk
    obtain ⟨k, rfl⟩ : ∃ q, k = q + 1 := ⟨k - 1, by omega⟩
    simp only [frisketref17_sum.l0]
    rw [if_neg (by omega)]
    simp [sumP]
  | succ d ih =>
    intro i n k hi hd hn hn2 hkk
    obtain ⟨k, rfl⟩ : ∃ q, k = q + 1 := ⟨k - 1, by omega⟩
    have h2 := mn_b (hk.r i hi (by omega)) hk.c1
    have h3 := hk.c2
    simp only [frisketref17_sum.l0]
    rw [if_pos (by omega), if_pos hi, if_pos (by omega), w64 (by omega) (by omega), w64 (by omega) (by omega), ih (i + 1) _ k (by omega) (by omega) (by omega) (by omega) (by omega), sumP]
    congr 1
    omega
theorem refSum {l0 l1 : List Int} {c : Int} (hk : Ok l0 l1 c) (hl : l0.length ≤ 1048576) (a b : Int) (ha : 0 ≤ a) (hab : a ≤ b) (hb : b ≤ (l0.length : Int)) (k : Nat) (hkk : l0.length + 1 ≤ k) :
    frisketref17_sum.f k l0 a b c = some (sumP l0 c (b - a).toNat a) := by
  unfold frisketref17_sum.f
  rw [refSum_l0 hk hl b hb (b - a).toNat a 0 k ha (by omega) (by omega) (by omega) (by omega)]
  simp
theorem refFits {l0 l1 : List Int} {c : Int} (hk : Ok l0 l1 c) (hl : l0.length ≤ 1048576) (a b : Int) (ha : 0 ≤ a) (hab : a < b) (hb : b ≤ (l0.length : Int)) (k : Nat) (hkk : l0.length + 1 ≤ k) :
    frisketref17_Fits.f k l0 a b c = some (decide (b = a + 1 ∨ sumP l0 c (b - a).toNat a ≤ c)) := by
  have h1 := hk.c1
  unfold frisketref17_Fits.f
  rw [if_neg (by omega), if_neg (by omega), if_neg (by omega), if_neg (by omega), w64 (by omega) (by omega), refSum hk hl a b ha (by omega) hb k hkk]
  by_cases h : b = a + 1
  · rw [if_pos h]; simp [h]
  · rw [if_neg h]; simp [h]
/-- The document's search for a line's end, from its state on. -/
theorem refEnd_l0 {l0 l1 : List Int} {c : Int} (hk : Ok l0 l1 c) (hl : l0.length ≤ 1048576) (a : Int) (ha : 0 ≤ a) (d : Nat) : ∀ (t n bt bn mo ma : Int) (k : Nat), (l0.length : Int) - t = (d : Int) + 1 → a ≤ t →
    mo = (if t > a then t else a + 1) → ma = (if bt > a then bt else 0) → bt ≤ t → n = sumP l0 c (t - a).toNat a → l0.length + d + 5 ≤ k →
    frisketref17_end.l0 k l0 l1 a c mo ma (t + 1) = some ((lineP l0 l1 c a (d + 1) t n bt bn).1, (lineP l0 l1 c a (d + 1) t n bt bn).2.2) := by
  have h1 := hk.c1
  have hlen := hk.len
  induction d with
  | zero =>
    intro t n bt bn mo ma k hd hat hmo hma hbt hn hkk
    obtain ⟨k, rfl⟩ : ∃ q, k = q + 3 := ⟨k - 3, by omega⟩
    have het := hk.e t (by omega) (by omega)
    have hs : sumP l0 c (t + 1 - a).toNat a = n + mn (rd l0 t) c := by
      have e : (t + 1 - a).toNat = (t - a).toNat + 1 := by omega
      have e2 : a + ((t - a).toNat : Int) = t := by omega
      rw [e, sumP_snoc, e2, hn]
    rw [frisketref17_end.l0]
    simp only [lineP]
    rw [if_pos (by omega), refFits hk hl a (t + 1) ha (by omega) (by omega) _ (by omega), hs]
    simp only [Option.bind_some]
    have e3 : wrap64 (t + 1 - 1) = t := by rw [w64 (by omega) (by omega)]; omega
    have e4 : wrap64 (t + 1 + 1) = t + 1 + 1 := w64 (by omega) (by omega)
    by_cases g : t > a ∧ n + mn (rd l0 t) c > c
    · have gf : ¬ (t + 1 = a + 1 ∨ n + mn (rd l0 t) c ≤ c) := by omega
      rw [if_pos g, decide_eq_false gf, if_neg (by decide)]
      rw [if_pos g.1] at hmo
      simp only [frisketref17_end.j1]
      rw [if_neg (by omega)]
      by_cases hb : bt > a
      · rw [if_pos hb] at hma ⊢
        rw [if_pos (by omega), hma]
      · rw [if_neg hb] at hma ⊢
        rw [if_neg (by omega), hmo]
    · have gt : t + 1 = a + 1 ∨ n + mn (rd l0 t) c ≤ c := by omega
      rw [if_neg g, decide_eq_true gt, if_pos rfl, e3, if_pos (by omega), if_pos (by omega), e4, if_pos (Or.inr trivial)]
      by_cases g2 : rd l1 t = 2
      · rw [if_pos g2]
      · rw [if_neg g2]
        by_cases g3 : rd l1 t = 1
        · rw [if_pos g3, frisketref17_end.l0, if_neg (by omega)]
          simp only [frisketref17_end.j1]
          rw [if_pos (by omega)]
        · rw [if_neg g3, frisketref17_end.l0, if_neg (by omega)]
          simp only [frisketref17_end.j1]
          rw [if_pos (by omega)]
  | succ d ih =>
    intro t n bt bn mo ma k hd hat hmo hma hbt hn hkk
    obtain ⟨k, rfl⟩ : ∃ q, k = q + 2 := ⟨k - 2, by omega⟩
    have het := hk.e t (by omega) (by omega)
    have hs : sumP l0 c (t + 1 - a).toNat a = n + mn (rd l0 t) c := by
      have e : (t + 1 - a).toNat = (t - a).toNat + 1 := by omega
      have e2 : a + ((t - a).toNat : Int) = t := by omega
      rw [e, sumP_snoc, e2, hn]
    have e3 : wrap64 (t + 1 - 1) = t := by rw [w64 (by omega) (by omega)]; omega
    have e4 : wrap64 (t + 1 + 1) = t + 1 + 1 := w64 (by omega) (by omega)
    rw [lineP, frisketref17_end.l0]
    rw [if_pos (by omega), refFits hk hl a (t + 1) ha (by omega) (by omega) _ (by omega), hs]
    simp only [Option.bind_some]
    by_cases g : t > a ∧ n + mn (rd l0 t) c > c
    · have gf : ¬ (t + 1 = a + 1 ∨ n + mn (rd l0 t) c ≤ c) := by omega
      rw [if_pos g, decide_eq_false gf, if_neg (by decide)]
      rw [if_pos g.1] at hmo
      simp only [frisketref17_end.j1]
      rw [if_neg (by omega)]
      by_cases hb : bt > a
      · rw [if_pos hb] at hma ⊢
        rw [if_pos (by omega), hma]
      · rw [if_neg hb] at hma ⊢
        rw [if_neg (by omega), hmo]
    · have gt : t + 1 = a + 1 ∨ n + mn (rd l0 t) c ≤ c := by omega
      rw [if_neg g, decide_eq_true gt, if_pos rfl, e3, if_pos (by omega), if_pos (by omega), e4]
      by_cases g2 : rd l1 t = 2
      · rw [if_pos g2, if_pos (Or.inl g2)]
      · rw [if_neg g2, if_neg (show ¬ (rd l1 t = 2 ∨ d + 1 = 0) by omega)]
        by_cases g3 : rd l1 t = 1
        · rw [if_pos g3, if_pos g3]
          exact ih (t + 1) _ (t + 1) _ (t + 1) (t + 1) (k + 1) (by omega) (by omega) (by rw [if_pos (by omega)]) (by rw [if_pos (by omega)]) (by omega) hs.symm (by omega)
        · rw [if_neg g3, if_neg g3]
          exact ih (t + 1) _ bt _ (t + 1) ma (k + 1) (by omega) (by omega) (by rw [if_pos (by omega)]) hma (by omega) hs.symm (by omega)
theorem refEnd {l0 l1 : List Int} {c : Int} (hk : Ok l0 l1 c) (hl : l0.length ≤ 1048576) (a : Int) (ha : 0 ≤ a) (hal : a < (l0.length : Int)) (k : Nat) (hkk : 2 * l0.length + 5 ≤ k) :
    frisketref17_end.f k l0 l1 a c = some ((lineA l0 l1 c a).f1, (lineA l0 l1 c a).f3) := by
  obtain ⟨d, hd⟩ : ∃ d : Nat, l0.length - a.toNat = d + 1 := ⟨l0.length - a.toNat - 1, by omega⟩
  unfold frisketref17_end.f lineA
  rw [w64 (by omega) (by omega), hd]
  exact refEnd_l0 hk hl a ha d a 0 a 0 (a + 1) 0 k (by omega) (by omega) (by rw [if_neg (by omega)]) (by rw [if_neg (by omega)]) (by omega) (by simp [sumP]) (by omega)
/-- What a line reaches is what its things come to. -/
theorem lineP_sum (l0 l1 : List Int) (c a : Int) (d : Nat) : ∀ (t n bt bn : Int), (l0.length : Int) - t = d → a ≤ t → n = sumP l0 c (t - a).toNat a → (bt > a → bt ≤ t ∧ bn = sumP l0 c (bt - a).toNat a) →
    (lineP l0 l1 c a d t n bt bn).2.1 = sumP l0 c ((lineP l0 l1 c a d t n bt bn).1 - a).toNat a := by
  induction d with
  | zero =>
    intro t n bt bn hd hat hn hb
    simp only [lineP]
    by_cases h : bt > a
    · rw [if_pos h]; exact (hb h).2
    · rw [if_neg h]; exact hn
  | succ d ih =>
    intro t n bt bn hd hat hn hb
    have hs : n + mn (rd l0 t) c = sumP l0 c (t + 1 - a).toNat a := by
      have e : (t + 1 - a).toNat = (t - a).toNat + 1 := by omega
      have e2 : a + ((t - a).toNat : Int) = t := by omega
      rw [e, sumP_snoc, e2, hn]
    simp only [lineP]
    by_cases h1 : t > a ∧ n + mn (rd l0 t) c > c
    · rw [if_pos h1]
      by_cases h : bt > a
      · rw [if_pos h]; exact (hb h).2
      · rw [if_neg h]; exact hn
    · rw [if_neg h1]
      by_cases h2 : rd l1 t = 2 ∨ d = 0
      · rw [if_pos h2]; exact hs
      · rw [if_neg h2]
        by_cases h3 : rd l1 t = 1
        · rw [if_pos h3]; exact ih _ _ _ _ (by omega) (by omega) hs (fun _ => ⟨by omega, hs⟩)
        · rw [if_neg h3]; exact ih _ _ _ _ (by omega) (by omega) hs (fun h => ⟨by have := (hb h).1; omega, (hb h).2⟩)
def conv (x : S32) : S50 := ⟨x.f0, x.f1, x.f2, x.f3⟩
theorem refLines_l0 {l0 l1 : List Int} {c : Int} (hk : Ok l0 l1 c) (hl : l0.length ≤ 1048576) : ∀ (m : Nat) (a : Int) (q : List S32) (acc : List S50) (k : Nat), 0 ≤ a → linesN l0 l1 c m a = some q → acc.length + q.length ≤ 1048577 → 2 * l0.length + 6 + m ≤ k →
    frisketref17_Lines.l0 k l0 l1 c acc a = some (acc ++ q.map conv, 0)
  | 0, a, q, acc, k, ha, h, hacc, hkk => by simp [linesN] at h
  | m + 1, a, q, acc, k, ha, h, hacc, hkk => by
    obtain ⟨k, rfl⟩ : ∃ q, k = q + 1 := ⟨k - 1, by omega⟩
    by_cases hil : a < (l0.length : Int)
    · rw [linesN_go hk hl m ha hil] at h
      obtain ⟨q', h1, rfl⟩ := Option.map_eq_some_iff.1 h
      have ht := lineA_to (l0 := l0) (l1 := l1) (c := c) ha hil
      have hsum : (lineA l0 l1 c a).f2 = sumP l0 c ((lineA l0 l1 c a).f1 - a).toNat a := lineP_sum l0 l1 c a _ a 0 a 0 (by omega) (by omega) (by simp [sumP]) (fun h => absurd h (by omega))
      simp only [List.length_cons] at hacc
      simp only [frisketref17_Lines.l0]
      rw [if_pos hil, refEnd hk hl a ha hil k (by omega)]
      simp only [Option.bind_some]
      rw [refSum hk hl a _ ha (by omega) ht.2 k (by omega), ← hsum]
      simp only [Option.bind_some]
      rw [if_pos (by omega), refLines_l0 hk hl m _ q' _ k (by omega) h1 (by simp; omega) (by omega)]
      simp [conv, lineA]
    · obtain rfl := linesN_end h hil
      simp only [frisketref17_Lines.l0]
      rw [if_neg hil]
      simp
end Go.Proofs.Yteeoomenncocpaa.Pure
