/- The document's weak rules are the program's, in plain Lean. -/
import Derived.Test.YtdhknnaholaohaaP21
import Derived.Test.YtdhknnaholaohaaP20
import Derived.Test.YtdhknnaholaohaaP17
import Derived.Test.YtdhknnaholaohaaP18
import Derived.Test.YtdhknnaholaohaaP19
import Derived.Test.YtdhknnaholaohaaP16
import Derived.Test.YtdhknnaholaohaaPureRule
namespace Go.Proofs.Ytdhknnaholaohaa.Pure
open Go.RowKit Go.Proofs.Ytdhknnaholaohaa.P Go.Proofs.YtdhknnaholaohaaW.PrintWords Go.Proofs.YtdhknnaholaohaaW.PrintLast Go.Proofs.YtdhknnaholaohaaW.PrintMore
set_option linter.unusedVariables false
set_option linter.unusedSimpArgs false

theorem strong_l0 (l : List Int) (hl : l.length ≤ 1000000) (a : Int) : ∀ (i k : Nat), i ≤ l.length → i + 1 ≤ k → frisketref10_strong.l0 k l a ((i : Int) - 1) = some (sb l a i)
  | 0, k, hi, hk => by
    obtain ⟨k, rfl⟩ : ∃ q, k = q + 1 := ⟨k - 1, by omega⟩
    rw [frisketref10_strong.l0, if_neg (by omega)]
    rfl
  | i + 1, k, hi, hk => by
    obtain ⟨k, rfl⟩ : ∃ q, k = q + 1 := ⟨k - 1, by omega⟩
    have ew : Aside0 (wrap64 ((i : Int) - 1) = (i : Int) - 1) := ⟨w64 (by omega) (by omega)⟩
    have ih := strong_l0 l hl a i k (by omega) (by omega)
    rw [frisketref10_strong.l0, show ((i + 1 : Nat) : Int) - 1 = (i : Int) by omega, if_pos (by omega), if_pos (by omega), if_pos (by omega), ew.out, ih, sb]
    unfold strB
    by_cases h0 : rd l (i : Int) = 0
    · rw [if_pos h0, h0]; rfl
    · rw [if_neg h0]
      by_cases h1 : rd l (i : Int) = 1
      · rw [if_pos h1, h1]; rfl
      · rw [if_neg h1]
        by_cases h2 : rd l (i : Int) = 2
        · rw [if_pos h2, h2]; rfl
        · rw [if_neg h2, beq_eq_false_iff_ne.2 h0, beq_eq_false_iff_ne.2 h1, beq_eq_false_iff_ne.2 h2]; rfl
theorem strong_f (l : List Int) (hl : l.length ≤ 1000000) (a : Int) (i k : Nat) (hi : i ≤ l.length) (hk : i + 1 ≤ k) : frisketref10_strong.f k l (i : Int) a = some (sb l a i) := by
  unfold frisketref10_strong.f
  rw [w64 (by omega) (by omega)]
  exact strong_l0 l hl a i k hi hk
theorem bes_l1 (l : List Int) (hl : l.length ≤ 1000000) (p : Nat) (hp : p ≤ l.length) (b : Bool) (hb : b = true ↔ 0 < p ∧ rd l ((p - 1 : Nat) : Int) = 3) (d : Nat) : ∀ (i k : Nat), l.length - i = d → i ≤ l.length → d + 1 ≤ k → frisketref10_beside.l1 k l ((p : Int) - 1) (i : Int) = some (b || rg l d i) := by
  have fin : ∀ x : Bool, (if ((p : Int) - 1) ≥ 0 then (if 0 ≤ ((p : Int) - 1) then (if ((p : Int) - 1) < (l.length : Int) then (if (rd l ((p : Int) - 1)) = 3 then (some true) else (some x)) else (none)) else (none)) else (some x)) = some (b || x) := by
    intro x
    cases p with
    | zero =>
      rw [if_neg (by omega)]
      cases b with
      | false => rfl
      | true => have := (hb.1 rfl).1; omega
    | succ p =>
      rw [show ((p + 1 : Nat) : Int) - 1 = (p : Int) by omega, if_pos (by omega), if_pos (by omega), if_pos (by omega)]
      by_cases c : rd l (p : Int) = 3
      · rw [if_pos c, hb.2 ⟨by omega, by rw [Nat.add_sub_cancel]; exact c⟩]; rfl
      · rw [if_neg c]
        cases b with
        | false => rfl
        | true => exact absurd (by simpa using (hb.1 rfl).2) c
  induction d with
  | zero =>
    intro i k hd hi hk
    obtain ⟨k, rfl⟩ : ∃ q, k = q + 1 := ⟨k - 1, by omega⟩
    rw [frisketref10_beside.l1, if_neg (by omega)]
    exact fin false
  | succ d ih =>
    intro i k hd hi hk
    obtain ⟨k, rfl⟩ : ∃ q, k = q + 1 := ⟨k - 1, by omega⟩
    have e1 : Aside0 (wrap64 ((i : Int) + 1) = ((i + 1 : Nat) : Int)) := ⟨(w64 (by omega) (by omega)).trans (by omega)⟩
    rw [frisketref10_beside.l1, if_pos (by omega), if_pos (by omega), e1.out, ih (i + 1) k (by omega) (by omega) (by omega), rg]
    by_cases c : rd l (i : Int) = 5
    · rw [if_pos c, if_pos c]
    · rw [if_neg c, if_neg c]
      exact fin _
theorem lf_is (l : List Int) : ∀ p : Nat, ∃ q : Nat, q ≤ p ∧ (lf l p = true ↔ 0 < q ∧ rd l ((q - 1 : Nat) : Int) = 3) ∧ (0 < q → rd l ((q - 1 : Nat) : Int) ≠ 5) ∧ (∀ m : Nat, q ≤ m → m < p → rd l (m : Int) = 5)
  | 0 => ⟨0, Nat.le_refl _, by simp [lf], by omega, fun m h1 h2 => by omega⟩
  | p + 1 => by
    by_cases c : rd l (p : Int) = 5
    · obtain ⟨q, h1, h2, h3, h4⟩ := lf_is l p
      refine ⟨q, by omega, by rw [lf, if_pos c]; exact h2, h3, fun m g1 g2 => ?_⟩
      by_cases e : m = p
      · rw [e]; exact c
      · exact h4 m g1 (by omega)
    · refine ⟨p + 1, Nat.le_refl _, ?_, fun _ => by rw [Nat.add_sub_cancel]; exact c, fun m g1 g2 => by omega⟩
      rw [lf, if_neg c, Nat.add_sub_cancel, beq_iff_eq]
      exact ⟨fun h => ⟨by omega, h⟩, fun h => h.2⟩
theorem bes_l0 (l : List Int) (hl : l.length ≤ 1000000) (i : Nat) (hi : i < l.length) (q : Nat) (hq : q ≤ i + 1) (b : Bool) (hb : b = true ↔ 0 < q ∧ rd l ((q - 1 : Nat) : Int) = 3) (h5 : 0 < q → rd l ((q - 1 : Nat) : Int) ≠ 5) : ∀ (p k : Nat), q ≤ p → p ≤ i + 1 → (∀ m : Nat, q ≤ m → m < p → rd l (m : Int) = 5) → (p - q) + l.length + 5 ≤ k →
    frisketref10_beside.l0 k l (i : Int) ((p : Int) - 1) = some (b || rg l (l.length - i) i)
  | 0, k, h1, h2, hr, hk => by
    obtain ⟨k, rfl⟩ : ∃ q, k = q + 2 := ⟨k - 2, by omega⟩
    obtain rfl : q = 0 := by omega
    rw [frisketref10_beside.l0, if_neg (by omega), frisketref10_beside.j1]
    exact bes_l1 l hl 0 (by omega) b hb (l.length - i) i k rfl (by omega) (by omega)
  | p + 1, k, h1, h2, hr, hk => by
    obtain ⟨k, rfl⟩ : ∃ q, k = q + 2 := ⟨k - 2, by omega⟩
    have ew : Aside0 (wrap64 ((p : Int) - 1) = (p : Int) - 1) := ⟨w64 (by omega) (by omega)⟩
    rw [frisketref10_beside.l0, show ((p + 1 : Nat) : Int) - 1 = (p : Int) by omega, if_pos (by omega), if_pos (by omega), if_pos (by omega), ew.out]
    by_cases c : q = p + 1
    · subst c
      have := h5 (by omega)
      rw [Nat.add_sub_cancel] at this
      rw [if_neg this, frisketref10_beside.j1]
      have h9 := bes_l1 l hl (p + 1) (by omega) b hb (l.length - i) i k rfl (by omega) (by omega)
      rwa [show ((p + 1 : Nat) : Int) - 1 = (p : Int) by omega] at h9
    · rw [if_pos (hr p (by omega) (by omega))]
      exact bes_l0 l hl i hi q hq b hb h5 p (k + 1) (by omega) (by omega) (fun m g1 g2 => hr m g1 (by omega)) (by omega)
theorem beside_f (l : List Int) (hl : l.length ≤ 1000000) (i : Nat) (hi : i < l.length) (h5 : rd l (i : Int) = 5) (k : Nat) (hk : 2 * l.length + 8 ≤ k) : frisketref10_beside.f k l (i : Int) = some (lf l i || rg l (l.length - i) i) := by
  obtain ⟨q, h1, h2, h3, h4⟩ := lf_is l i
  have := bes_l0 l hl i hi q (by omega) (lf l i) h2 h3 (i + 1) k (by omega) (by omega) (fun m g1 g2 => by
    by_cases e : m = i
    · rw [e]; exact h5
    · exact h4 m g1 (by omega)) (by omega)
  unfold frisketref10_beside.f
  rwa [show ((i + 1 : Nat) : Int) - 1 = (i : Int) by omega] at this
theorem separates_f (l : List Int) (hl : l.length ≤ 1000000) (i : Nat) (hi : i < l.length) (hc : rd l (i : Int) = 4 ∨ rd l (i : Int) = 7) (k : Nat) : frisketref10_separates.f (k + 1) l ((List.range i).map (s4 l)) (i : Int) = some (s4 l i) := by
  unfold frisketref10_separates.f
  rw [if_pos (by omega), if_pos (by omega)]
  cases i with
  | zero =>
    rw [if_pos (by omega), frisketref10_separates.j0, if_pos rfl]
    rfl
  | succ i =>
    have e1 : Aside0 (wrap64 (((i + 1 : Nat) : Int) + 1) = ((i + 2 : Nat) : Int)) := ⟨(w64 (by omega) (by omega)).trans (by omega)⟩
    have e2 : Aside0 (wrap64 (((i + 1 : Nat) : Int) - 1) = (i : Int)) := ⟨(w64 (by omega) (by omega)).trans (by omega)⟩
    have f0 : rd ((List.range (i + 1)).map (s4 l)) (i : Int) = s4 l i := rdm _ _ _ (by omega)
    have fl : (((List.range (i + 1)).map (s4 l)).length : Int) = ((i + 1 : Nat) : Int) := by simp
    rw [if_neg (by omega), frisketref10_separates.j0, e1.out, e2.out, f0, fl]
    have hs : s4 l (i + 1) = if i + 2 < l.length ∧ (rd l ((i + 1 : Nat) : Int) = 4 ∨ rd l ((i + 1 : Nat) : Int) = 7) ∧ (s4 l i = 3 ∨ s4 l i = 6 ∧ rd l ((i + 1 : Nat) : Int) = 7) ∧ rd l ((i + 2 : Nat) : Int) = s4 l i then s4 l i else rd l ((i + 1 : Nat) : Int) := rfl
    rw [hs]
    clear hs e1 e2 f0 fl
    by_cases c : i + 2 = l.length
    · rw [if_pos (by simp; omega), if_neg (by omega)]
    · have cb : (((i + 2 : Nat) : Int) == (l.length : Int)) = false := beq_eq_false_iff_ne.2 (by omega)
      have hi2 : i + 2 < l.length := by omega
      have p0 : (0 : Int) ≤ (i : Int) := by omega
      have p1 : (i : Int) < ((i + 1 : Nat) : Int) := by omega
      have p2 : (0 : Int) ≤ ((i + 2 : Nat) : Int) := by omega
      have p3 : ((i + 2 : Nat) : Int) < (l.length : Int) := by omega
      rw [cb, if_neg (by decide), if_pos p0, if_pos p1, if_pos p2, if_pos p3]
      clear cb p0 p1 p2 p3
      generalize s4 l i = a
      generalize rd l ((i + 1 : Nat) : Int) = x at hc ⊢
      generalize rd l ((i + 2 : Nat) : Int) = y
      by_cases ya : a = y
      · rw [if_pos ya]
        by_cases a3 : a = 3
        · rw [if_pos a3, if_pos ⟨hi2, hc, .inl a3, ya.symm⟩]
        · rw [if_neg a3]
          by_cases x7 : x = 7
          · rw [if_pos x7]
            by_cases a6 : a = 6
            · rw [if_pos a6, if_pos ⟨hi2, hc, .inr ⟨a6, x7⟩, ya.symm⟩]
            · rw [if_neg a6, if_neg (fun h => by rcases h.2.2.1 with g | g <;> omega)]
          · rw [if_neg x7, if_neg (fun h => by rcases h.2.2.1 with g | g <;> omega)]
      · rw [if_neg ya, if_neg (fun h => ya h.2.2.2.symm)]
theorem iso_f (v : Int) : ∃ b, frisketref10_isolates.f v = some b ∧ isoW v = if b = true then 13 else v := by
  unfold frisketref10_isolates.f isoW
  by_cases h1 : v = 19
  · exact ⟨true, by rw [if_pos h1], by rw [h1]; rfl⟩
  · rw [if_neg h1, beq_eq_false_iff_ne.2 h1]
    by_cases h2 : v = 20
    · exact ⟨true, by rw [if_pos h2], by rw [h2]; rfl⟩
    · rw [if_neg h2, beq_eq_false_iff_ne.2 h2]
      by_cases h3 : v = 21
      · exact ⟨true, by rw [if_pos h3], by rw [h3]; rfl⟩
      · rw [if_neg h3, beq_eq_false_iff_ne.2 h3]
        exact ⟨v == 22, rfl, by simp only [Bool.false_or]⟩
theorem at_f (j : Nat) (hj : j < 7) (a : Int) (l : List Int) (hl : l.length ≤ 1000000) (i : Nat) (hi : i < l.length) (k : Nat) (hk : 2 * l.length + 20 ≤ k) : frisketref10_at.f k ((j + 1 : Nat) : Int) l ((List.range i).map (rN j a l)) (i : Int) a = some (rN j a l i) := by
  obtain ⟨k, rfl⟩ : ∃ q, k = q + 6 := ⟨k - 6, by omega⟩
  unfold frisketref10_at.f
  rw [if_pos (by omega), if_pos (by omega)]
  match j, hj with
  | 0, _ =>
    rw [if_pos (show ((0 + 1 : Nat) : Int) = 1 from rfl), frisketref10_at.j0]
    simp only [rN]
    rw [m1_last, markW]
    by_cases c : rd l (i : Int) = 8
    · rw [c, if_pos (show ((8 : Int) == 8) = true from rfl), if_pos (show ((8 : Int) == 8) = true from rfl)]
      cases i with
      | zero => rw [if_pos (by omega)]; rfl
      | succ i =>
        have e2 : Aside0 (wrap64 (((i + 1 : Nat) : Int) - 1) = (i : Int)) := ⟨(w64 (by omega) (by omega)).trans (by omega)⟩
        have f0 : rd ((List.range (i + 1)).map (m1 l a)) (i : Int) = m1 l a i := rdm _ _ _ (by omega)
        obtain ⟨b, hb1, hb2⟩ := iso_f (m1 l a i)
        rw [if_neg (by omega), e2.out, if_pos (by omega), if_pos (by rw [List.length_map, List.length_range]; omega), f0, hb1, Option.bind_some, show lastM l a (i + 1) = isoW (m1 l a i) from rfl, hb2]
        split <;> rfl
    · have cb := beq_eq_false_iff_ne.2 c
      rw [cb]
      simp [frisketref10_at.j1, frisketref10_at.j2, frisketref10_at.j3, frisketref10_at.j4, frisketref10_at.j5]
  | 1, _ =>
    rw [if_neg (show ¬ ((1 + 1 : Nat) : Int) = 1 by decide), frisketref10_at.j0]
    simp only [rN, b1, Bool.false_eq_true, if_false]
    rw [if_pos (show ((1 + 1 : Nat) : Int) = 2 from rfl)]
    by_cases c : rd l (i : Int) = 3
    · rw [if_pos c, strong_f l hl a i _ (by omega) (by omega), Option.bind_some, c, frisketref10_at.j1]
      cases hs : (sb l a i == 2) with
      | true => rw [if_pos rfl]; rfl
      | false => simp [frisketref10_at.j2, frisketref10_at.j3, frisketref10_at.j4, frisketref10_at.j5]
    · rw [if_neg c, beq_eq_false_iff_ne.2 c]
      simp [frisketref10_at.j1, frisketref10_at.j2, frisketref10_at.j3, frisketref10_at.j4, frisketref10_at.j5]
  | 2, _ =>
    rw [if_neg (show ¬ ((2 + 1 : Nat) : Int) = 1 by decide), frisketref10_at.j0]
    simp only [rN, r3]
    cases hs : (rd l (i : Int) == 2) with
    | true => simp [frisketref10_at.j1, frisketref10_at.j2, hs]
    | false => simp [frisketref10_at.j1, frisketref10_at.j2, frisketref10_at.j3, frisketref10_at.j4, frisketref10_at.j5, hs]
  | 3, _ =>
    rw [if_neg (show ¬ ((3 + 1 : Nat) : Int) = 1 by decide), frisketref10_at.j0]
    simp only [rN]
    have put : (rd l (i : Int) = 4 ∨ rd l (i : Int) = 7) → frisketref10_at.j3 (k + 2) ((3 + 1 : Nat) : Int) l ((List.range i).map (s4 l)) (i : Int) a (rd l (i : Int)) true = some (s4 l i) := fun h => by
      rw [frisketref10_at.j3, if_pos rfl, separates_f l hl i hi h k]; rfl
    simp only [frisketref10_at.j1, frisketref10_at.j2, Bool.false_eq_true, if_false]
    rw [if_neg (show ¬ ((3 + 1 : Nat) : Int) = 2 by decide), if_neg (show ¬ ((3 + 1 : Nat) : Int) = 3 by decide), if_pos (show ((3 + 1 : Nat) : Int) = 4 from rfl)]
    by_cases c4 : rd l (i : Int) = 4
    · rw [if_pos c4]; exact put (.inl c4)
    · rw [if_neg c4]
      by_cases c7 : rd l (i : Int) = 7
      · rw [beq_iff_eq.2 c7]; exact put (.inr c7)
      · have hs : s4 l i = rd l (i : Int) := by
          cases i with
          | zero => rfl
          | succ i => rw [s4, if_neg (fun h => by rcases h.2.1 with g | g; exact c4 g; exact c7 g)]
        rw [beq_eq_false_iff_ne.2 c7, hs]
        simp [frisketref10_at.j3, frisketref10_at.j4, frisketref10_at.j5]
  | 4, _ =>
    rw [if_neg (show ¬ ((4 + 1 : Nat) : Int) = 1 by decide), frisketref10_at.j0]
    simp only [rN, t5]
    by_cases c : rd l (i : Int) = 5
    · simp only [frisketref10_at.j1, frisketref10_at.j2, frisketref10_at.j3, Bool.false_eq_true, if_false]
      rw [if_neg (show ¬ ((4 + 1 : Nat) : Int) = 2 by decide), if_neg (show ¬ ((4 + 1 : Nat) : Int) = 3 by decide), if_neg (show ¬ ((4 + 1 : Nat) : Int) = 4 by decide), if_pos (show ((4 + 1 : Nat) : Int) = 5 from rfl), if_pos c, beside_f l hl i hi c _ (by omega), Option.bind_some, frisketref10_at.j4]
      cases (lf l i || rg l (l.length - i) i) with
      | true => rw [if_pos rfl, if_pos ⟨c, rfl⟩]
      | false => simp [frisketref10_at.j5]
    · simp [frisketref10_at.j1, frisketref10_at.j2, frisketref10_at.j3, frisketref10_at.j4, frisketref10_at.j5, c]
  | 5, _ =>
    rw [if_neg (show ¬ ((5 + 1 : Nat) : Int) = 1 by decide), frisketref10_at.j0]
    simp only [rN, o6]
    by_cases c4 : rd l (i : Int) = 4
    · simp [frisketref10_at.j1, frisketref10_at.j2, frisketref10_at.j3, frisketref10_at.j4, frisketref10_at.j5, c4]
    · by_cases c5 : rd l (i : Int) = 5
      · simp [frisketref10_at.j1, frisketref10_at.j2, frisketref10_at.j3, frisketref10_at.j4, frisketref10_at.j5, c5]
      · by_cases c7 : rd l (i : Int) = 7
        · simp [frisketref10_at.j1, frisketref10_at.j2, frisketref10_at.j3, frisketref10_at.j4, frisketref10_at.j5, c7]
        · simp [frisketref10_at.j1, frisketref10_at.j2, frisketref10_at.j3, frisketref10_at.j4, frisketref10_at.j5, c4, c5, c7]
  | 6, _ =>
    rw [if_neg (show ¬ ((6 + 1 : Nat) : Int) = 1 by decide), frisketref10_at.j0]
    simp only [rN, b1]
    by_cases c : rd l (i : Int) = 3
    · simp only [frisketref10_at.j1, frisketref10_at.j2, frisketref10_at.j3, frisketref10_at.j4, frisketref10_at.j5, Bool.false_eq_true, if_false]
      rw [if_neg (show ¬ ((6 + 1 : Nat) : Int) = 2 by decide), if_neg (show ¬ ((6 + 1 : Nat) : Int) = 3 by decide), if_neg (show ¬ ((6 + 1 : Nat) : Int) = 4 by decide), if_neg (show ¬ ((6 + 1 : Nat) : Int) = 5 by decide), if_neg (show ¬ ((6 + 1 : Nat) : Int) = 6 by decide), if_pos (show ((6 + 1 : Nat) : Int) = 7 from rfl), if_pos c, strong_f l hl a i _ (by omega) (by omega), Option.bind_some, c]
      by_cases hs : sb l a i = 0
      · rw [if_pos hs, hs]; rfl
      · rw [if_neg hs, beq_eq_false_iff_ne.2 hs]; rfl
    · simp [frisketref10_at.j1, frisketref10_at.j2, frisketref10_at.j3, frisketref10_at.j4, frisketref10_at.j5, c]
theorem refRule_l0 (j : Nat) (hj : j < 7) (a : Int) (l : List Int) (hl : l.length ≤ 1000000) (d : Nat) : ∀ (i k : Nat), l.length - i = d → i ≤ l.length → 2 * l.length + 21 + d ≤ k → frisketref10_Rule.l0 k ((j + 1 : Nat) : Int) l a ((List.range i).map (rN j a l)) (i : Int) = some (RN j a l, 0) := by
  induction d with
  | zero =>
    intro i k hd hi hk
    obtain ⟨k, rfl⟩ : ∃ q, k = q + 1 := ⟨k - 1, by omega⟩
    obtain rfl : i = l.length := by omega
    rw [frisketref10_Rule.l0, if_neg (by omega)]
    rfl
  | succ d ih =>
    intro i k hd hi hk
    obtain ⟨k, rfl⟩ : ∃ q, k = q + 1 := ⟨k - 1, by omega⟩
    have e2 : Aside0 (wrap64 ((i : Int) + 1) = ((i + 1 : Nat) : Int)) := ⟨(w64 (by omega) (by omega)).trans (by omega)⟩
    rw [frisketref10_Rule.l0, if_pos (by omega), at_f j hj a l hl i (by omega) k (by omega), Option.bind_some, if_pos (by simp; omega), e2.out, ← rm_succ]
    exact ih (i + 1) k (by omega) (by omega) (by omega)
theorem refRule_f (j : Nat) (hj : j < 7) (a : Int) (ha : a = 0 ∨ a = 1) (l : List Int) (hl : l.length ≤ 1000000) (k : Nat) (hk : 3 * l.length + 22 ≤ k) : frisketref10_Rule.f k ((j + 1 : Nat) : Int) l a = some (RN j a l, 0) := by
  obtain ⟨k, rfl⟩ : ∃ q, k = q + 1 := ⟨k - 1, by omega⟩
  have go : frisketref10_Rule.j0 (k + 1) ((j + 1 : Nat) : Int) l a false = some (RN j a l, 0) := by
    rw [frisketref10_Rule.j0, if_neg (by decide)]
    exact refRule_l0 j hj a l hl l.length 0 k (by omega) (by omega) (by omega)
  unfold frisketref10_Rule.f
  rw [if_neg (by omega), if_neg (by omega)]
  rcases ha with rfl | rfl
  · rw [if_pos rfl]; exact go
  · rw [if_neg (by decide)]; exact go
/-- The document's refusal. -/
theorem refRule_no (n a : Int) (h : ¬ (1 ≤ n ∧ n ≤ 7 ∧ (a = 0 ∨ a = 1))) (l : List Int) (k : Nat) : frisketref10_Rule.f (k + 1) n l a = some ([], 1) := by
  have go : frisketref10_Rule.j0 (k + 1) n l a true = some ([], 1) := by rw [frisketref10_Rule.j0, if_pos rfl]
  unfold frisketref10_Rule.f
  by_cases c1 : n < 1
  · rw [if_pos c1]; exact go
  · rw [if_neg c1]
    by_cases c2 : n > 7
    · rw [if_pos c2]; exact go
    · rw [if_neg c2, if_neg (by omega), bne_iff_ne.2 (show a ≠ 1 by omega)]; exact go
theorem rule_f (j : Nat) (hj : j < 7) (a : Int) (ha : a = 0 ∨ a = 1) (l : List Int) (hl : l.length ≤ 1000000) : weak_Rule.f ((j + 1 : Nat) : Int) l a = some (RN j a l, 0) := by
  unfold weak_Rule.f
  rw [if_pos ⟨by omega, by omega, ha⟩, if_pos (by omega), show (((j + 1 : Nat) : Int) - 1).toNat = j by omega, ruleL_eq j hj a l hl]
  rfl
theorem rule_no (n a : Int) (h : ¬ (1 ≤ n ∧ n ≤ 7 ∧ (a = 0 ∨ a = 1))) (l : List Int) : weak_Rule.f n l a = some ([], 1) := by
  unfold weak_Rule.f
  rw [if_neg h]
/-- The rules from j on. -/
def RA (a : Int) : Nat → Nat → List Int → List Int
  | 0, _, l => l
  | d + 1, j, l => RA a d (j + 1) (RN j a l)
def AP (a : Int) (l : List Int) : List Int := RA a 7 0 l
theorem RA_len (a : Int) : ∀ (d j : Nat) (l : List Int), (RA a d j l).length = l.length
  | 0, _, _ => rfl
  | d + 1, j, l => by rw [RA, RA_len a d (j + 1), RN_len]
theorem allR_eq (a : Int) : ∀ (d j : Nat) (l : List Int), j + d = 7 → l.length ≤ 1000000 → allR a d j l = some (RA a d j l)
  | 0, _, _, _, _ => rfl
  | d + 1, j, l, hj, hl => by
    rw [allR, if_pos (by omega), ruleL_eq j (by omega) a l hl, Option.bind_some, allR_eq a d (j + 1) _ (by omega) (by rw [RN_len]; exact hl)]
    rfl
theorem all_f (a : Int) (ha : a = 0 ∨ a = 1) (l : List Int) (hl : l.length ≤ 1000000) : weak_All.f l a = some (AP a l, 0) := by
  unfold weak_All.f
  rw [if_pos ha, if_pos (by omega), allR_eq a 7 0 l rfl hl]
  rfl
theorem all_no (a : Int) (h : ¬ (a = 0 ∨ a = 1)) (l : List Int) : weak_All.f l a = some ([], 1) := by
  unfold weak_All.f
  rw [if_neg h]
end Go.Proofs.Ytdhknnaholaohaa.Pure
