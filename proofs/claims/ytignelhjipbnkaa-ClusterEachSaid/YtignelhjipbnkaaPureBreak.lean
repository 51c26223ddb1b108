/- The document's Break and Starts are the program's, in plain Lean. -/
import Derived.Test.YtignelhjipbnkaaP9
import Derived.Test.YtignelhjipbnkaaP21
import Derived.Test.YtignelhjipbnkaaP22
import Derived.Test.YtignelhjipbnkaaP8
import Derived.Test.YtignelhjipbnkaaPureBase
namespace Go.Proofs.Ytignelhjipbnkaa.Pure
open Go.RowKit Go.Proofs.Ytignelhjipbnkaa.P Go.Proofs.YtignelhjipbnkaaW.PrintWords Go.Proofs.YtignelhjipbnkaaW.PrintLast Go.Proofs.YtignelhjipbnkaaW.PrintMore
set_option linter.unusedVariables false
set_option linter.unusedSimpArgs false

theorem brB_0 (l : List Int) : brB l 0 = true := by
  unfold brB brkS sS
  rw [if_neg (by simp), if_pos (by simp [endB])]
/-- Where the regionals that stand last are an odd number, a regional stands last. -/
theorem odd_reg (l : List Int) (i : Nat) (h : (sS l (i + 1)).2.2 = true) : rd l (i : Int) = 6 := by
  rw [sS, then_eq] at h
  simp only [Bool.and_eq_true, beq_iff_eq] at h
  exact h.1
theorem ref_j4 (l : List Int) (hl : l.length ≤ 1099511627776) (i : Nat) (hi : i + 1 < l.length) (k : Nat) (hk : l.length + 5 ≤ k) (x : Bool) :
    frisketref05_Break.j4 k l ((i + 1 : Nat) : Int) (rd l (i : Int)) (rd l ((i + 1 : Nat) : Int)) x = some (if x = true then false else if rd l (i : Int) = 5 ∧ rd l ((i + 1 : Nat) : Int) = 14 then !(sS l (i + 1)).2.1 else if rd l (i : Int) = 6 ∧ rd l ((i + 1 : Nat) : Int) = 6 then !(sS l (i + 1)).2.2 else true) := by
  obtain ⟨k, rfl⟩ : ∃ q, k = q + 1 := ⟨k - 1, by omega⟩
  simp only [frisketref05_Break.j4]
  cases x with
  | true => rfl
  | false =>
    have e1 : wrap64 (((i + 1 : Nat) : Int) - 1) = (i : Int) := (w64 (by omega) (by omega)).trans (by omega)
    have e2 : wrap64 ((i : Int) - 1) = (i : Int) - 1 := w64 (by omega) (by omega)
    simp only [Bool.false_eq_true, if_false]
    rw [e1]
    unfold frisketref05_picture.f frisketref05_odd.f
    rw [e2]
    clear e1 e2
    by_cases h14 : rd l ((i + 1 : Nat) : Int) = 14
    · rw [if_pos h14]
      by_cases h5 : rd l (i : Int) = 5
      · rw [if_pos ⟨h5, h14⟩, pic_l0 l hl i (by omega) h5 i k (by omega) (by omega), Option.bind_some]
        congr 2
        rw [sS, then_eq, h5]
        cases (sS l i).2.1 <;> cases ((sS l i).1 == 4 || (sS l i).1 == 14) <;> rfl
      · rw [if_neg (fun h => h5 h.1), pic_no l hl i (by omega) h5 i k (by omega) (by omega), Option.bind_some, if_neg (by omega)]
        rfl
    · rw [if_neg h14, if_neg (show ¬ (rd l (i : Int) = 5 ∧ rd l ((i + 1 : Nat) : Int) = 14) from fun h => h14 h.2)]
      by_cases h6 : rd l (i : Int) = 6
      · rw [if_pos h6]
        by_cases g6 : rd l ((i + 1 : Nat) : Int) = 6
        · have := odd_l0 l hl (i + 1) k 0 (by omega) (by omega) (by omega)
          rw [show ((i + 1 : Nat) : Int) - 1 = (i : Int) by omega] at this
          rw [if_pos g6, if_pos ⟨h6, g6⟩, show (0 : Int) = ((0 : Nat) : Int) from rfl, this, Option.bind_some]
          simp
        · rw [if_neg g6, if_neg (fun h => g6 h.2)]
      · rw [if_neg h6, if_neg (fun h => h6 h.1)]
theorem refBreak_mid (l : List Int) (hl : l.length ≤ 1099511627776) (i : Nat) (hi : i + 1 < l.length) (k : Nat) (hk : l.length + 20 ≤ k) : frisketref05_Break.f k l ((i + 1 : Nat) : Int) = some (brB l (i + 1)) := by
  obtain ⟨k, rfl⟩ : ∃ q, k = q + 4 := ⟨k - 4, by omega⟩
  have e1 : wrap64 (((i + 1 : Nat) : Int) - 1) = (i : Int) := (w64 (by omega) (by omega)).trans (by omega)
  have hb : brB l (i + 1) = brkS (rd l (i : Int)) (sS l (i + 1)).2.1 (sS l (i + 1)).2.2 (rd l ((i + 1 : Nat) : Int)) := by rw [brB, sS_last]
  unfold frisketref05_Break.f
  rw [if_neg (by omega), if_neg (by omega), beq_eq_false_iff_ne.2 (show ((l.length : Nat) : Int) ≠ 0 by omega)]
  simp only [frisketref05_Break.j0, Bool.false_eq_true, if_false]
  rw [if_neg (by omega), beq_eq_false_iff_ne.2 (show ((i + 1 : Nat) : Int) ≠ (l.length : Int) by omega)]
  simp only [frisketref05_Break.j1, Bool.false_eq_true, if_false]
  rw [e1, if_pos (by omega), if_pos (by omega), if_pos (by omega), if_pos (by omega), hb]
  clear e1
  have h4 := ref_j4 l hl i hi k (by omega)
  unfold brkS
  generalize (sS l (i + 1)).2.1 = p at h4
  generalize (sS l (i + 1)).2.2 = o at h4
  generalize rd l (i : Int) = a at h4
  generalize rd l ((i + 1 : Nat) : Int) = b at h4
  have j3 : ∀ x : Bool, frisketref05_Break.j3 (k + 1) l ((i + 1 : Nat) : Int) a b x = some (if x = true then true else if (sylB a b || a == 7) = true then false else if b = 4 ∨ b = 5 ∨ b = 8 then false else if a = 5 ∧ b = 14 then !p else if a = 6 ∧ b = 6 then !o else true) := by
    intro x
    simp only [frisketref05_Break.j3]
    cases x with
    | true => rfl
    | false =>
      simp only [Bool.false_eq_true, if_false]
      rw [hangul_f k a b (by omega), Option.bind_some]
      cases sylB a b with
      | true => rw [if_pos rfl, h4]; rfl
      | false =>
        simp only [Bool.false_eq_true, if_false, Bool.false_or]
        by_cases g1 : b = 4
        · rw [if_pos g1, h4, if_pos rfl, if_pos (show b = 4 ∨ b = 5 ∨ b = 8 from Or.inl g1)]
          split <;> rfl
        · rw [if_neg g1]
          by_cases g2 : b = 5
          · rw [if_pos g2, h4, if_pos rfl, if_pos (show b = 4 ∨ b = 5 ∨ b = 8 from Or.inr (Or.inl g2))]
            split <;> rfl
          · rw [if_neg g2]
            by_cases g3 : b = 8
            · rw [if_pos g3, h4, if_pos rfl, if_pos (show b = 4 ∨ b = 5 ∨ b = 8 from Or.inr (Or.inr g3))]
              split <;> rfl
            · rw [if_neg g3, h4, if_neg (show ¬ (b = 4 ∨ b = 5 ∨ b = 8) by omega)]
  have j2 : ∀ x : Bool, frisketref05_Break.j2 (k + 2) l ((i + 1 : Nat) : Int) a b x = some (if x = true then false else if (endB a || endB b) = true then true else if (sylB a b || a == 7) = true then false else if b = 4 ∨ b = 5 ∨ b = 8 then false else if a = 5 ∧ b = 14 then !p else if a = 6 ∧ b = 6 then !o else true) := by
    intro x
    simp only [frisketref05_Break.j2]
    cases x with
    | true => rfl
    | false =>
      simp only [Bool.false_eq_true, if_false]
      rw [refEnds_f, Option.bind_some, refEnds_f, Option.bind_some]
      cases endB a with
      | true => rw [if_pos rfl, j3]; rfl
      | false => simp only [Bool.false_eq_true, if_false, Bool.false_or]; rw [j3]
  by_cases h1 : a = 1
  · rw [if_pos h1, j2]
    by_cases h2 : b = 2
    · subst h2; simp [h1]
    · rw [beq_eq_false_iff_ne.2 h2, if_neg (show ¬ (false = true) by decide), if_neg (show ¬ (a = 1 ∧ b = 2) from fun h => h2 h.2)]
  · rw [if_neg h1, j2, if_neg (show ¬ (false = true) by decide), if_neg (show ¬ (a = 1 ∧ b = 2) from fun h => h1 h.1)]
/-- Is there a break ahead of place a? -/
def brkP (l : List Int) (a : Int) : Bool := decide (0 ≤ a ∧ a ≤ (l.length : Int) ∧ 0 < l.length) && (decide (a = (l.length : Int)) || brB l a.toNat)
theorem refBreak_f (l : List Int) (hl : l.length ≤ 1099511627776) (a : Int) (k : Nat) (hk : l.length + 20 ≤ k) : frisketref05_Break.f k l a = some (brkP l a) := by
  unfold brkP
  by_cases h : 0 ≤ a ∧ a ≤ (l.length : Int) ∧ 0 < l.length
  · rw [decide_eq_true h, Bool.true_and]
    by_cases h1 : a = (l.length : Int)
    · obtain ⟨k, rfl⟩ : ∃ q, k = q + 2 := ⟨k - 2, by omega⟩
      unfold frisketref05_Break.f
      rw [if_neg (by omega), if_neg (by omega), beq_eq_false_iff_ne.2 (show ((l.length : Nat) : Int) ≠ 0 by omega)]
      simp only [frisketref05_Break.j0, Bool.false_eq_true, if_false]
      rw [if_neg (by omega), beq_iff_eq.2 h1]
      simp [frisketref05_Break.j1, h1]
    · by_cases h2 : a = 0
      · obtain ⟨k, rfl⟩ : ∃ q, k = q + 2 := ⟨k - 2, by omega⟩
        unfold frisketref05_Break.f
        rw [if_neg (by omega), if_neg (by omega), beq_eq_false_iff_ne.2 (show ((l.length : Nat) : Int) ≠ 0 by omega)]
        simp only [frisketref05_Break.j0, Bool.false_eq_true, if_false]
        rw [if_pos h2, h2]
        simp [frisketref05_Break.j1, brB_0]
      · obtain ⟨i, rfl⟩ : ∃ i : Nat, a = ((i + 1 : Nat) : Int) := ⟨(a - 1).toNat, by omega⟩
        rw [refBreak_mid l hl i (by omega) k hk, decide_eq_false h1, Bool.false_or, Int.toNat_natCast]
  · rw [decide_eq_false h, Bool.false_and]
    obtain ⟨k, rfl⟩ : ∃ q, k = q + 1 := ⟨k - 1, by omega⟩
    unfold frisketref05_Break.f
    by_cases h1 : a < 0
    · rw [if_pos h1]; simp [frisketref05_Break.j0]
    · rw [if_neg h1]
      by_cases h2 : a > (l.length : Int)
      · rw [if_pos h2]; simp [frisketref05_Break.j0]
      · rw [if_neg h2, beq_iff_eq.2 (show ((l.length : Nat) : Int) = 0 by omega)]; simp [frisketref05_Break.j0]
theorem refStarts_l0 (l : List Int) (hl : l.length ≤ 1099511627776) (d : Nat) : ∀ (i k : Nat) (acc : List Int), l.length - i = d → i ≤ l.length → acc.length ≤ i → l.length + 21 + d ≤ k → frisketref05_Starts.l0 k l acc i = some (acc ++ stL l d i) := by
  induction d with
  | zero =>
    intro i k acc hd hi ha hk
    obtain ⟨k, rfl⟩ : ∃ q, k = q + 1 := ⟨k - 1, by omega⟩
    simp only [frisketref05_Starts.l0]
    rw [if_neg (by omega)]
    simp [stL]
  | succ d ih =>
    intro i k acc hd hi ha hk
    obtain ⟨k, rfl⟩ : ∃ q, k = q + 1 := ⟨k - 1, by omega⟩
    have e2 : wrap64 ((i : Int) + 1) = ((i + 1 : Nat) : Int) := (w64 (by omega) (by omega)).trans (by omega)
    have eb : brkP l (i : Int) = brB l i := by
      unfold brkP
      rw [decide_eq_true (by omega), Bool.true_and, decide_eq_false (by omega), Bool.false_or, Int.toNat_natCast]
    simp only [frisketref05_Starts.l0, stL]
    rw [if_pos (by omega), refBreak_f l hl _ k (by omega), Option.bind_some, eb, e2]
    clear e2
    cases brB l i with
    | true =>
      rw [if_pos rfl, if_pos (by omega), if_pos rfl, ih (i + 1) k _ (by omega) (by omega) (by simp; omega) (by omega)]
      simp
    | false =>
      rw [if_neg (by decide), if_neg (by decide), ih (i + 1) k _ (by omega) (by omega) (by omega) (by omega)]
theorem refStarts_f (l : List Int) (hl : l.length ≤ 1099511627776) (k : Nat) (hk : 2 * l.length + 21 ≤ k) : frisketref05_Starts.f k l = some (stP l) := by
  unfold frisketref05_Starts.f
  have := refStarts_l0 l hl l.length 0 k [] (by omega) (by omega) (by simp) (by omega)
  unfold stP
  simpa using this
/-- slices.Index over whole numbers. -/
theorem index_l0 (l : List Int) (hl : l.length ≤ 1099511627776) (x : Int) (d : Nat) : ∀ (j k : Nat), l.length - j = d → j ≤ l.length → d + 1 ≤ k → ∃ r : Int, slices_Index_int_int.l0 k l x (l.length : Int) j = some r ∧ decide (r ≥ 0) = (l.drop j).any (· == x) := by
  induction d with
  | zero =>
    intro j k hd hj hk
    obtain ⟨k, rfl⟩ : ∃ q, k = q + 1 := ⟨k - 1, by omega⟩
    refine ⟨-1, ?_, ?_⟩
    · simp only [slices_Index_int_int.l0]
      rw [if_neg (by omega)]
    · rw [List.drop_eq_nil_of_le (by omega)]; rfl
  | succ d ih =>
    intro j k hd hj hk
    obtain ⟨k, rfl⟩ : ∃ q, k = q + 1 := ⟨k - 1, by omega⟩
    have e2 : wrap64 ((j : Int) + 1) = ((j + 1 : Nat) : Int) := (w64 (by omega) (by omega)).trans (by omega)
    simp only [slices_Index_int_int.l0]
    rw [if_pos (by omega), if_pos (by omega), if_pos (by omega), e2, rd_at l j (by omega), List.drop_eq_getElem_cons (show j < l.length by omega), List.any_cons]
    by_cases h : x = l[j]
    · rw [if_pos h]
      exact ⟨_, rfl, by rw [h]; simp⟩
    · rw [if_neg h, beq_eq_false_iff_ne.2 (fun e => h e.symm), Bool.false_or]
      exact ih (j + 1) k (by omega) (by omega) (by omega)
theorem contains_f (l : List Int) (hl : l.length ≤ 1099511627776) (x : Int) (k : Nat) (hk : l.length + 1 ≤ k) : slices_Contains_int_int.f k l x = some (l.any (· == x)) := by
  unfold slices_Contains_int_int.f slices_Index_int_int.f
  obtain ⟨r, h1, h2⟩ := index_l0 l hl x l.length 0 k (by omega) (by omega) hk
  simp only [Int.natCast_zero, Int.ofNat_zero] at h1
  rw [h1, Option.bind_some, h2, List.drop_zero]
theorem stL_any (l : List Int) (a : Int) : ∀ (d i : Nat), (stL l d i).any (· == a) = decide ((i : Int) ≤ a ∧ a < ((i + d : Nat) : Int) ∧ brB l a.toNat = true)
  | 0, i => by
    simp only [stL, List.any_nil]
    rw [decide_eq_false]
    omega
  | d + 1, i => by
    have ih := stL_any l a d (i + 1)
    simp only [stL]
    by_cases e : (i : Int) = a
    · have et : a.toNat = i := by omega
      cases hb : brB l i with
      | true =>
        rw [if_pos rfl, List.any_cons, beq_iff_eq.2 e, Bool.true_or, et, hb, decide_eq_true]
        exact ⟨by omega, by omega, rfl⟩
      | false =>
        rw [if_neg (by decide), ih, et, hb]
        rw [decide_eq_false (by simp), decide_eq_false (by simp)]
    · have es : decide (((i + 1 : Nat) : Int) ≤ a ∧ a < ((i + 1 + d : Nat) : Int) ∧ brB l a.toNat = true) = decide ((i : Int) ≤ a ∧ a < ((i + (d + 1) : Nat) : Int) ∧ brB l a.toNat = true) := by
        congr 1
        apply propext
        constructor
        · rintro ⟨h1, h2, h3⟩; exact ⟨by omega, by omega, h3⟩
        · rintro ⟨h1, h2, h3⟩; exact ⟨by omega, by omega, h3⟩
      split
      · rw [List.any_cons, beq_eq_false_iff_ne.2 e, Bool.false_or, ih, es]
      · rw [ih, es]
theorem break_f (l : List Int) (hl : l.length ≤ 1099511627776) (a : Int) (k : Nat) (hk : l.length + 1 ≤ k) : cluster_Break.f k l a = some (brkP l a) := by
  have hs := stL_len l l.length 0
  unfold cluster_Break.f brkP
  by_cases h1 : a ≥ 0
  · rw [if_pos h1]
    by_cases h2 : (l.length : Int) > 0
    · rw [if_pos h2]
      by_cases h3 : a = (l.length : Int)
      · rw [if_pos h3, decide_eq_true (by omega), decide_eq_true h3]; rfl
      · rw [if_neg h3, starts_f l hl, Option.bind_some, contains_f (stP l) (Nat.le_trans hs hl) a k (Nat.le_trans (Nat.succ_le_succ hs) hk), Option.bind_some, stP, stL_any, decide_eq_false h3, Bool.false_or]
        congr 1
        by_cases h4 : a < (l.length : Int)
        · rw [decide_eq_true (show 0 ≤ a ∧ a ≤ (l.length : Int) ∧ 0 < l.length by omega), Bool.true_and]
          cases brB l a.toNat with
          | true => rw [decide_eq_true]; exact ⟨by omega, by omega, rfl⟩
          | false => rw [decide_eq_false]; simp
        · rw [decide_eq_false (show ¬ (0 ≤ a ∧ a ≤ (l.length : Int) ∧ 0 < l.length) by omega), Bool.false_and, decide_eq_false]
          omega
    · rw [if_neg h2, decide_eq_false (by omega)]; rfl
  · rw [if_neg h1, decide_eq_false (by omega)]; rfl
end Go.Proofs.Ytignelhjipbnkaa.Pure
