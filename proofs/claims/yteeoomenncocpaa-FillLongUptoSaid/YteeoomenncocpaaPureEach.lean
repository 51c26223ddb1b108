/- What each line of fill.Lines is, in plain Lean: where it ends and why. -/
import Derived.Test.YteeoomenncocpaaP17
import Derived.Test.YteeoomenncocpaaPureFillLines
namespace Go.Proofs.Yteeoomenncocpaa.Pure
open Go.RowKit Go.Proofs.Yteeoomenncocpaa.P Go.Proofs.YteeoomenncocpaaW.PrintWords Go.Proofs.YteeoomenncocpaaW.PrintLast Go.Proofs.YteeoomenncocpaaW.PrintMore
set_option linter.unusedVariables false
set_option linter.unusedSimpArgs false

/-- What a line that begins at a and ends behind r is. -/
structure Well (l0 l1 : List Int) (c a z n : Int) (em : Bool) : Prop where
  le : n ≤ c
  no2 : ∀ k : Int, a ≤ k → k + 1 < z → rd l1 k ≠ 2
  last : em = false → z = (l0.length : Int) ∨ rd l1 (z - 1) ≠ 0
  long : z = (l0.length : Int) ∨ rd l1 (z - 1) = 2 ∨ ∃ t : Int, a < t ∧ z ≤ t ∧ t < (l0.length : Int) ∧ c < sumP l0 c (t + 1 - a).toNat a ∧ (∀ k : Int, z ≤ k → k < t → rd l1 k = 0) ∧ (em = true → z = t ∧ ∀ k : Int, a ≤ k → k < t → rd l1 k = 0)
theorem lineP_well {l0 l1 : List Int} {c a : Int} (hk : Ok l0 l1 c) (ha : 0 ≤ a) (d : Nat) : ∀ (t n bt bn : Int), (l0.length : Int) - t = d → 0 < d → a ≤ t → (t = a → n = 0) → n ≤ c → bn ≤ c → n = sumP l0 c (t - a).toNat a →
    bt ≤ t → (∀ k : Int, a ≤ k → k < t → rd l1 k ≠ 2) → (bt > a → rd l1 (bt - 1) ≠ 0) → (∀ k : Int, a ≤ k → bt ≤ k → k < t → rd l1 k = 0) →
    Well l0 l1 c a (lineP l0 l1 c a d t n bt bn).1 (lineP l0 l1 c a d t n bt bn).2.1 (lineP l0 l1 c a d t n bt bn).2.2 := by
  induction d with
  | zero => intro t n bt bn hd h0; omega
  | succ d ih =>
    intro t n bt bn hd _ hat hz hn hbn hs hbt h2 hb0 hz0
    have hm := mn_b (hk.r t (by omega) (by omega)) hk.c1
    have het := hk.e t (by omega) (by omega)
    have hs' : n + mn (rd l0 t) c = sumP l0 c (t + 1 - a).toNat a := by
      have e : (t + 1 - a).toNat = (t - a).toNat + 1 := by omega
      have e2 : a + ((t - a).toNat : Int) = t := by omega
      rw [e, sumP_snoc, e2, hs]
    simp only [lineP]
    by_cases h1 : t > a ∧ n + mn (rd l0 t) c > c
    · rw [if_pos h1]
      by_cases h : bt > a
      · rw [if_pos h]
        exact ⟨hbn, fun k g1 g2 => h2 k g1 (by simp only at g2; omega), fun _ => .inr (hb0 h), .inr (.inr ⟨t, h1.1, hbt, by omega, by omega, fun k g1 g2 => hz0 k (by simp only at g1; omega) g1 g2, fun e => by simp at e⟩)⟩
      · rw [if_neg h]
        exact ⟨hn, fun k g1 g2 => h2 k g1 (by simp only at g2; omega), fun e => by simp at e, .inr (.inr ⟨t, h1.1, Int.le_refl _, by omega, by omega, fun k g1 g2 => by simp only at g1; omega, fun _ => ⟨rfl, fun k g1 g2 => hz0 k g1 (by omega) g2⟩⟩)⟩
    · rw [if_neg h1]
      have hle : n + mn (rd l0 t) c ≤ c := by
        by_cases h : t > a
        · have : ¬ n + mn (rd l0 t) c > c := fun h2 => h1 ⟨h, h2⟩
          omega
        · have := hz (by omega)
          omega
      have h2' : rd l1 t ≠ 2 → ∀ k : Int, a ≤ k → k < t + 1 → rd l1 k ≠ 2 := fun g k g1 g2 => by
        by_cases e : k = t
        · rw [e]; exact g
        · exact h2 k g1 (by omega)
      by_cases g2 : rd l1 t = 2 ∨ d = 0
      · rw [if_pos g2]
        have e3 : t + 1 - 1 = t := by omega
        rcases g2 with g | g
        · exact ⟨hle, fun k g1 g2 => h2 k g1 (by simp only at g2; omega), fun _ => .inr (by simp only [e3]; omega), .inr (.inl (by simp only [e3]; exact g))⟩
        · exact ⟨hle, fun k g1 g2 => h2 k g1 (by simp only at g2; omega), fun _ => .inl (by simp only; omega), .inl (by simp only; omega)⟩
      · rw [if_neg g2]
        have g2a : rd l1 t ≠ 2 := fun h => g2 (.inl h)
        have g2b : d ≠ 0 := fun h => g2 (.inr h)
        by_cases g3 : rd l1 t = 1
        · rw [if_pos g3]
          exact ih (t + 1) _ (t + 1) _ (by omega) (by omega) (by omega) (fun _ => by omega) hle hle hs' (by omega) (h2' g2a) (fun _ => by rw [show t + 1 - 1 = t by omega]; omega) (fun k h1 h2 h3 => by omega)
        · rw [if_neg g3]
          exact ih (t + 1) _ bt _ (by omega) (by omega) (by omega) (fun _ => by omega) hle hbn hs' (by omega) (h2' g2a) hb0 (fun k h1 h2 h3 => by
            by_cases e : k = t
            · rw [e]; omega
            · exact hz0 k h1 h2 (by omega))
theorem lineA_well {l0 l1 : List Int} {c a : Int} (hk : Ok l0 l1 c) (ha : 0 ≤ a) (hal : a < (l0.length : Int)) : Well l0 l1 c a (lineA l0 l1 c a).f1 (lineA l0 l1 c a).f2 (lineA l0 l1 c a).f3 := by
  have := hk.c1
  exact lineP_well hk ha _ a 0 a 0 (by omega) (by omega) (by omega) (fun _ => rfl) (by omega) (by omega) (by simp [sumP]) (by omega) (fun k h1 h2 => by omega) (fun h => by omega) (fun k h1 h2 h3 => by omega)
theorem lineA_sum {l0 l1 : List Int} {c a : Int} (ha : 0 ≤ a) (hal : a < (l0.length : Int)) : (lineA l0 l1 c a).f2 = sumP l0 c ((lineA l0 l1 c a).f1 - a).toNat a :=
  lineP_sum l0 l1 c a (l0.length - a.toNat) a 0 a 0 (by omega) (by omega) (by simp [sumP]) (fun h => absurd h (by omega))
/-- Line i of all: it begins where the one ahead of it ends. -/
theorem linesN_nth {l0 l1 : List Int} {c : Int} (hk : Ok l0 l1 c) (hl : l0.length ≤ 1048576) : ∀ (i : Nat) {m : Nat} {a : Int} {x : List S32} (hi : i < x.length), 0 ≤ a → linesN l0 l1 c m a = some x →
    ∃ b : Int, a ≤ b ∧ b < (l0.length : Int) ∧ x[i] = lineA l0 l1 c b ∧ b = (if h : 0 < i then (x[i - 1]'(by omega)).f1 else a) ∧ (i + 1 = x.length → (x[i]).f1 = (l0.length : Int))
  | i, m, a, [], hi, ha, h => absurd hi (by simp)
  | i, 0, a, z :: q, hi, ha, h => by simp [linesN] at h
  | i, m + 1, a, z :: q, hi, ha, h => by
    by_cases hil : a < (l0.length : Int)
    · rw [linesN_go hk hl m ha hil] at h
      obtain ⟨q', h1, e⟩ := Option.map_eq_some_iff.1 h
      obtain ⟨rfl, rfl⟩ := List.cons.inj e
      have ht := lineA_to (l0 := l0) (l1 := l1) (c := c) ha hil
      match i with
      | 0 =>
        refine ⟨a, Int.le_refl _, hil, rfl, by simp, fun e => ?_⟩
        have hq : q' = [] := List.length_eq_zero_iff.1 (by simp only [List.length_cons] at e; omega)
        subst hq
        simp only [List.getElem_cons_zero]
        have hlen0 := ht.2
        cases m with
        | zero => simp [linesN] at h1
        | succ m =>
          by_cases g : (lineA l0 l1 c a).f1 < (l0.length : Int)
          · rw [linesN_go hk hl m (by omega) g] at h1
            obtain ⟨_, _, e2⟩ := Option.map_eq_some_iff.1 h1
            cases e2
          · omega
      | i + 1 =>
        have hi' : i < q'.length := by simpa using hi
        obtain ⟨b, b1, b2, b3, b4, b5⟩ := linesN_nth hk hl i hi' (by omega) h1
        refine ⟨b, by omega, b2, by simpa using b3, ?_, fun e => ?_⟩
        · rw [b4]
          match i with
          | 0 => simp
          | i + 1 => simp
        · have := b5 (by simp only [List.length_cons] at e; omega)
          simpa using this
    · have := linesN_end h hil
      cases this
/-- fill.Fits of a stretch within the things. -/
theorem fits_in {l0 l1 : List Int} {c : Int} (hk : Ok l0 l1 c) (hl : l0.length ≤ 1048576) (a b : Int) (ha : 0 ≤ a) (hab : a < b) (hb : b ≤ (l0.length : Int)) (k : Nat) (hkk : l0.length + 5 ≤ k)
    (H : ∃ r, fill_Fits.f k l0 a b c = some r ∧ frisketref17_Fits.f k l0 a b c = some r) : fill_Fits.f k l0 a b c = some (decide (b = a + 1 ∨ sumP l0 c (b - a).toNat a ≤ c)) := by
  obtain ⟨r, h1, h2⟩ := H
  rw [refFits hk hl a b ha hab hb k (by omega)] at h2
  rw [h1, ← h2]
theorem sumP_mono {l0 l1 : List Int} {c : Int} (hk : Ok l0 l1 c) (a : Int) (ha : 0 ≤ a) (d : Nat) : ∀ e : Nat, a + (d + e : Nat) ≤ (l0.length : Int) → sumP l0 c d a ≤ sumP l0 c (d + e) a
  | 0, _ => Int.le_refl _
  | e + 1, h => by
    have h1 := sumP_mono hk a ha d e (by omega)
    have h2 := mn_b (hk.r (a + (d + e : Nat)) (by omega) (by omega)) hk.c1
    have h3 := sumP_snoc l0 c (d + e) a
    rw [show d + (e + 1) = d + e + 1 by omega, h3]
    omega
end Go.Proofs.Yteeoomenncocpaa.Pure
