/- The pure side of the law BreaksGo: at every kinds its Lean function answers true. -/
import Derived.Test.YtbcflgiapiclgaaP19
import Derived.Test.YtbcflgiapiclgaaPureAt
namespace Go.Proofs.Ytbcflgiapiclgaa.Pure
open Go.RowKit Go.Proofs.Ytbcflgiapiclgaa.P Go.Proofs.YtbcflgiapiclgaaW.PrintWords Go.Proofs.YtbcflgiapiclgaaW.PrintLast Go.Proofs.YtbcflgiapiclgaaW.PrintMore
set_option linter.unusedVariables false
set_option linter.unusedSimpArgs false

/-- What the next place is: behind f, within the list, and none ahead of it. -/
theorem nxt_is (l : List Int) (f : Int) (hf : 0 ≤ f) (hfl : f < (l.length : Int)) (d : Nat) : ∀ i : Nat, i + d = l.length → (∀ j : Nat, f ≤ (j : Int) → j < i → brk l j = 0) →
    f < nxt l f d i ∧ nxt l f d i ≤ (l.length : Int) ∧ brk l (nxt l f d i - 1).toNat ≠ 0 ∧ ∀ j : Nat, f ≤ (j : Int) → ((j + 1 : Nat) : Int) < nxt l f d i → brk l j = 0 := by
  induction d with
  | zero =>
    intro i hd h0
    have h1 := brk_last l (l.length - 1) (by omega)
    have h2 := h0 (l.length - 1) (by omega) (by omega)
    rw [h1] at h2
    cases h2
  | succ d ih =>
    intro i hd h0
    simp only [nxt]
    by_cases h : ((i + 1 : Nat) : Int) > f ∧ brk l i ≠ 0
    · rw [if_pos h]
      exact ⟨h.1, by omega, by rw [show (((i + 1 : Nat) : Int) - 1).toNat = i by omega]; exact h.2, fun j h1 h2 => h0 j h1 (by omega)⟩
    · rw [if_neg h]
      refine ih (i + 1) (by omega) (fun j h1 h2 => ?_)
      by_cases e : j = i
      · subst e
        by_cases g : brk l j = 0
        · exact g
        · exact absurd ⟨show ((j + 1 : Nat) : Int) > f by omega, g⟩ h
      · exact h0 j h1 (by omega)
theorem nextP_is (l : List Int) (f : Int) (hf : 0 ≤ f) (hfl : f < (l.length : Int)) :
    f < nextP l f ∧ nextP l f ≤ (l.length : Int) ∧ brk l (nextP l f - 1).toNat ≠ 0 ∧ ∀ j : Nat, f ≤ (j : Int) → ((j + 1 : Nat) : Int) < nextP l f → brk l j = 0 := by
  have e : mx f 0 = f := by unfold mx; rw [if_neg (by omega)]
  unfold nextP
  rw [e]
  exact nxt_is l f hf hfl l.length 0 (by omega) (fun j _ h => by omega)
theorem nxt_end (l : List Int) (f : Int) (hf : (l.length : Int) ≤ f) (d : Nat) : ∀ i : Nat, i + d = l.length → nxt l f d i = (l.length : Int) := by
  induction d with
  | zero => intro i _; rfl
  | succ d ih =>
    intro i h
    simp only [nxt]
    rw [if_neg (by omega)]
    exact ih (i + 1) (by omega)
theorem nextP_end (l : List Int) : nextP l (l.length : Int) = (l.length : Int) := by
  have e : mx (l.length : Int) 0 = (l.length : Int) := by unfold mx; rw [if_neg (by omega)]
  unfold nextP
  rw [e]
  exact nxt_end l _ (Int.le_refl _) l.length 0 (by omega)
/-- A kind counts as an end where it is one. -/
theorem cnt_end (l : List Int) (i : Nat) : cnt l i = 11 ↔ rd l (i : Int) = 11 := by
  rw [cnt_last, norm]
  by_cases h1 : rd l (i : Int) < 0 ∨ rd l (i : Int) > 11
  · rw [if_pos h1]; omega
  · rw [if_neg h1]
    by_cases h2 : rd l (i : Int) = 10
    · rw [if_pos h2]
      cases h3 : opB (last l i) with
      | true => rw [if_pos rfl]; omega
      | false =>
        rw [if_neg (by decide)]
        constructor
        · intro e; rw [e] at h3; cases h3
        · omega
    · rw [if_neg h2]
theorem brk_must (l : List Int) (i : Nat) (hi : i < l.length) : (brk l i == 2) = (if i + 1 = l.length then true else rd l (i : Int) == 11) := by
  by_cases h : i + 1 = l.length
  · rw [if_pos h, brk_last l i h]; rfl
  · rw [if_neg h, brk, brkC, if_neg (by rw [cntL_len]; exact h), rd_cntL l i hi, verd_all]
    by_cases h1 : rd l (i : Int) = 11
    · have h2 := (cnt_end l i).2 h1
      rw [h1, h2]
      have : opB 11 = true := by decide
      simp [this]
    · have h2 : ¬ cnt l i = 11 := fun e => h1 ((cnt_end l i).1 e)
      rw [beq_eq_false_iff_ne.2 h1, if_neg h2]
      generalize cnt l i = x
      generalize rd (cntL l) ((i + 1 : Nat) : Int) = y
      generalize aft (cntL l) i = z
      generalize rd l ((i + 1 : Nat) : Int) = m
      repeat' split
      all_goals rfl
theorem go_l2 (l : List Int) (hl : l.length ≤ 80) (d : Nat) : ∀ (i k : Nat), l.length - i = d → i ≤ l.length → d + 200 ≤ k → frisketlaw06_BreaksGo.l2 k l (allP l) (l.length : Int) i = some true := by
  have hl' : l.length ≤ 1099511627776 := by omega
  induction d with
  | zero =>
    intro i k hd hi hk
    obtain ⟨k, rfl⟩ : ∃ q, k = q + 1 := ⟨k - 1, by omega⟩
    simp only [frisketlaw06_BreaksGo.l2]
    rw [if_neg (by omega), alive06 k (by omega), Option.bind_some, if_pos rfl, if_pos trivial, next_f l hl' _ k (by omega), Option.bind_some, nextP_end]
    simp
  | succ d ih =>
    intro i k hd hi hk
    obtain ⟨k, rfl⟩ : ∃ q, k = q + 1 := ⟨k - 1, by omega⟩
    have e2 : wrap64 ((i : Int) + 1) = ((i + 1 : Nat) : Int) := by rw [w64 (by omega) (by omega)]; omega
    have h1 := ih (i + 1) k (by omega) (by omega) (by omega)
    have hb := brk_must l i (by omega)
    simp only [frisketlaw06_BreaksGo.l2]
    rw [if_pos (by omega), if_pos (by omega), if_pos (by rw [allP_len]; omega), e2, rd_allP l i (by omega), h1, hb]
    clear e2
    by_cases h : i + 1 = l.length
    · rw [if_pos (by omega), if_pos h]; rfl
    · rw [if_neg (by omega), if_neg h]; simp
theorem go_l1 (l : List Int) (hl : l.length ≤ 80) (t_ : Nat) (htl : t_ ≤ l.length) (B : Nat) (H : ∀ k, B ≤ k → frisketlaw06_BreaksGo.l0 k l (allP l) (t_ : Int) = some true) (d : Nat) : ∀ (i k : Nat), t_ - i ≤ d → 1 ≤ i → (∀ j : Nat, i ≤ j + 1 → j + 1 < t_ → brk l j = 0) → B + d + 1 ≤ k →
    frisketlaw06_BreaksGo.l1 k l (allP l) (t_ : Int) i = some true := by
  induction d with
  | zero =>
    intro i k hd hi h0 hk
    obtain ⟨k, rfl⟩ : ∃ q, k = q + 1 := ⟨k - 1, by omega⟩
    simp only [frisketlaw06_BreaksGo.l1]
    rw [if_neg (by omega)]
    exact H k (by omega)
  | succ d ih =>
    intro i k hd hi h0 hk
    obtain ⟨k, rfl⟩ : ∃ q, k = q + 1 := ⟨k - 1, by omega⟩
    simp only [frisketlaw06_BreaksGo.l1]
    by_cases h : (i : Int) < (t_ : Int)
    · have h1 := ih (i + 1) k (by omega) (by omega) (fun j g1 g2 => h0 j (by omega) g2) (by omega)
      have e2 : wrap64 ((i : Int) + 1) = ((i + 1 : Nat) : Int) := by rw [w64 (by omega) (by omega)]; omega
      have e3 : wrap64 ((i : Int) - 1) = ((i - 1 : Nat) : Int) := by rw [w64 (by omega) (by omega)]; omega
      rw [if_pos h, e2, e3, h1]
      clear e2 e3
      rw [if_pos (by omega), if_pos (by rw [allP_len]; omega), rd_allP l (i - 1) (by omega), h0 (i - 1) (by omega) (by omega), if_pos rfl]
    · rw [if_neg h]
      exact H k (by omega)
theorem go_l0 (l : List Int) (hl : l.length ≤ 80) (d : Nat) : ∀ (at_ k : Nat), l.length - at_ ≤ d → at_ ≤ l.length → 300 + d * 100 ≤ k → frisketlaw06_BreaksGo.l0 k l (allP l) (at_ : Int) = some true := by
  have hl' : l.length ≤ 1099511627776 := by omega
  induction d with
  | zero =>
    intro at_ k hd hi hk
    obtain ⟨k, rfl⟩ : ∃ q, k = q + 1 := ⟨k - 1, by omega⟩
    obtain rfl : at_ = l.length := by omega
    simp only [frisketlaw06_BreaksGo.l0]
    rw [if_neg (by omega)]
    exact go_l2 l hl l.length 0 k (by omega) (by omega) (by omega)
  | succ d ih =>
    intro at_ k hd hi hk
    obtain ⟨k, rfl⟩ : ∃ q, k = q + 2 := ⟨k - 2, by omega⟩
    simp only [frisketlaw06_BreaksGo.l0]
    by_cases h : (at_ : Int) < (l.length : Int)
    · obtain ⟨n1, n2, n3, n4⟩ := nextP_is l (at_ : Int) (by omega) h
      rw [if_pos h, next_f l hl' _ (k + 1) (by omega), Option.bind_some]
      obtain ⟨t_, hto⟩ : ∃ t_ : Nat, nextP l (at_ : Int) = (t_ : Int) := ⟨(nextP l (at_ : Int)).toNat, by omega⟩
      rw [hto] at n1 n2 n3 n4 ⊢
      have e3 : wrap64 ((t_ : Int) - 1) = ((t_ - 1 : Nat) : Int) := by rw [w64 (by omega) (by omega)]; omega
      have e4 : wrap64 ((at_ : Int) + 1) = ((at_ + 1 : Nat) : Int) := by rw [w64 (by omega) (by omega)]; omega
      rw [if_neg (by omega), if_neg (by omega), e3]
      clear e3
      rw [if_pos (by omega), if_pos (by rw [allP_len]; omega), rd_allP l (t_ - 1) (by omega)]
      rw [show ((t_ : Int) - 1).toNat = t_ - 1 by omega] at n3
      rw [beq_eq_false_iff_ne.2 n3]
      simp only [frisketlaw06_BreaksGo.j1, Bool.false_eq_true, if_false]
      rw [e4]
      clear e4
      exact go_l1 l hl t_ (by omega) (300 + d * 100) (fun k' hk' => ih t_ k' (by omega) (by omega) hk') 80 (at_ + 1) k (by omega) (by omega) (fun j g1 g2 => n4 j (by omega) (by omega)) (by omega)
    · obtain rfl : at_ = l.length := by omega
      rw [if_neg h]
      exact go_l2 l hl l.length 0 (k + 1) (by omega) (by omega) (by omega)
theorem BreaksGo : ∀ (l0 : List Int), l0.length * 8 ≤ 140737488351232 → l0.length ≤ maxLen → (∀ e ∈ l0, (Lit.int .i64 e).wf = true) → ∃ k, frisketlaw06_BreaksGo.f k l0 = some true := by
  intro l _ _ _
  refine ⟨10000, ?_⟩
  unfold frisketlaw06_BreaksGo.f
  by_cases h : (l.length : Int) > 80
  · rw [if_pos h, alive06 10000 (by decide)]
    rfl
  · have hl : l.length ≤ 80 := by omega
    have hl' : l.length ≤ 1099511627776 := by omega
    rw [if_neg h, all_f l hl', Option.bind_some, if_pos (by rw [allP_len])]
    exact go_l0 l hl 80 0 10000 (by omega) (by omega) (by omega)
end Go.Proofs.Ytbcflgiapiclgaa.Pure
