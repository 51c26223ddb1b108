/- The document's At, All and Next are the program's, in plain Lean. -/
import Derived.Test.YtbcflgiapiclgaaP13
import Derived.Test.YtbcflgiapiclgaaP6
import Derived.Test.YtbcflgiapiclgaaP16
import Derived.Test.YtbcflgiapiclgaaP14
import Derived.Test.YtbcflgiapiclgaaP7
import Derived.Test.YtbcflgiapiclgaaPureBase
namespace Go.Proofs.Ytbcflgiapiclgaa.Pure
open Go.RowKit Go.Proofs.Ytbcflgiapiclgaa.P Go.Proofs.YtbcflgiapiclgaaW.PrintWords Go.Proofs.YtbcflgiapiclgaaW.PrintLast Go.Proofs.YtbcflgiapiclgaaW.PrintMore
set_option linter.unusedVariables false
set_option linter.unusedSimpArgs false

theorem refAt_j6 (k : Nat) (a b : Int) (x : Bool) : frisketref06_At.j6 (k + 1) a b x = some (if x = true then 0 else if a = 5 ∧ b = 1 then 0 else 1) := by
  simp only [frisketref06_At.j6]
  cases x with
  | true => rfl
  | false =>
    simp only [Bool.false_eq_true, if_false]
    by_cases h1 : a = 5
    · by_cases h2 : b = 1
      · rw [if_pos h1, if_pos h2, if_pos ⟨h1, h2⟩]
      · rw [if_pos h1, if_neg h2, if_neg (fun h => h2 h.2)]
    · rw [if_neg h1, if_neg (fun h => h1 h.1)]
theorem refAt_j5 (k : Nat) (a b : Int) (w x : Bool) : frisketref06_At.j5 (k + 2) a b w x = some (if x = true then 0 else if a = 8 then 1 else if a = 7 ∨ b = 7 then 0 else if b = 5 ∨ b = 6 then 0 else if w = true then 0 else if a = 5 ∧ b = 1 then 0 else 1) := by
  simp only [frisketref06_At.j5]
  cases x with
  | true => rfl
  | false =>
    simp only [Bool.false_eq_true, if_false]
    by_cases h1 : a = 8
    · rw [if_pos h1, if_pos h1]
    · rw [if_neg h1, if_neg h1]
      by_cases h2 : a = 7
      · rw [if_pos h2, if_pos (Or.inl h2), refAt_j6]; rfl
      · rw [if_neg h2]
        by_cases h3 : b = 7
        · rw [if_pos h3, if_pos (Or.inr h3), refAt_j6]; rfl
        · rw [if_neg h3, if_neg (show ¬ (a = 7 ∨ b = 7) by omega)]
          by_cases h4 : b = 5
          · rw [if_pos h4, if_pos (Or.inl h4), refAt_j6]; rfl
          · rw [if_neg h4]
            by_cases h5 : b = 6
            · rw [if_pos h5, if_pos (Or.inr h5), refAt_j6]; rfl
            · rw [if_neg h5, if_neg (show ¬ (b = 5 ∨ b = 6) by omega), refAt_j6]
theorem refAt_j3 (k : Nat) (a b : Int) (z o w m : Bool) : frisketref06_At.j3 (k + 4) a b z o w m = some (if m = true then 0 else if a = 11 then 2 else if opB b = true then 0 else if z = true then 1 else if b = 4 ∨ o = true then 0 else if a = 8 then 1 else if a = 7 ∨ b = 7 then 0 else if b = 5 ∨ b = 6 then 0 else if w = true then 0 else if a = 5 ∧ b = 1 then 0 else 1) := by
  simp only [frisketref06_At.j3]
  cases m with
  | true => rfl
  | false =>
    simp only [Bool.false_eq_true, if_false]
    by_cases h1 : a = 11
    · rw [if_pos h1, if_pos h1]
    · rw [if_neg h1, if_neg h1]
      have j4 : ∀ x : Bool, x = opB b → frisketref06_At.j4 (k + 3) a b z o w x = some (if opB b = true then 0 else if z = true then 1 else if b = 4 ∨ o = true then 0 else if a = 8 then 1 else if a = 7 ∨ b = 7 then 0 else if b = 5 ∨ b = 6 then 0 else if w = true then 0 else if a = 5 ∧ b = 1 then 0 else 1) := by
        intro x hx
        rw [← hx]
        clear hx
        simp only [frisketref06_At.j4]
        cases x with
        | true => rfl
        | false =>
          simp only [Bool.false_eq_true, if_false]
          cases z with
          | true => rfl
          | false =>
            simp only [Bool.false_eq_true, if_false]
            by_cases h2 : b = 4
            · rw [if_pos h2, if_pos (Or.inl h2), refAt_j5]; rfl
            · rw [if_neg h2, refAt_j5]
              cases o with
              | true => rw [if_pos rfl, if_pos (Or.inr rfl)]
              | false => rw [if_neg (by decide), if_neg (show ¬ (b = 4 ∨ false = true) by simp [h2])]
      unfold opB at j4 ⊢
      by_cases h2 : b = 11
      · rw [if_pos h2]
        exact j4 true (by simp [h2])
      · rw [if_neg h2]
        by_cases h3 : b = 8
        · rw [if_pos h3]
          exact j4 true (by simp [h3])
        · rw [if_neg h3]
          exact j4 (b == 9) (by rw [beq_eq_false_iff_ne.2 h2, beq_eq_false_iff_ne.2 h3]; simp)
/-- The document's At. -/
def atP (l : List Int) (a : Int) : Int := if a ≤ 0 ∨ a > (l.length : Int) then 0 else brk l (a - 1).toNat
theorem refAt_f (l : List Int) (hl : l.length ≤ 1099511627776) (a : Int) (k : Nat) (hk : 3 * l.length + 20 ≤ k) : frisketref06_At.f k l a = some (atP l a) := by
  obtain ⟨k, rfl⟩ : ∃ q, k = q + 1 := ⟨k - 1, by omega⟩
  unfold frisketref06_At.f
  have j0 : ∀ b : Bool, b = decide (a ≤ 0 ∨ a > (l.length : Int)) → frisketref06_At.j0 (k + 1) l a b = some (atP l a) := by
    intro b hb
    simp only [frisketref06_At.j0]
    cases b with
    | true =>
      have hb := of_decide_eq_true hb.symm
      rw [if_pos rfl, atP, if_pos hb]
    | false =>
      have hb := of_decide_eq_false hb.symm
      rw [if_neg (by decide), atP, if_neg hb]
      obtain ⟨i, rfl⟩ : ∃ i : Nat, a = ((i + 1 : Nat) : Int) := ⟨(a - 1).toNat, by omega⟩
      have ei : (((i + 1 : Nat) : Int) - 1).toNat = i := by omega
      have ew : wrap64 (((i + 1 : Nat) : Int) - 1) = (i : Int) := by rw [w64 (by omega) (by omega)]; omega
      rw [ei, ew]
      by_cases h1 : ((i + 1 : Nat) : Int) = (l.length : Int)
      · rw [if_pos h1, brk, brkC, if_pos (by rw [cntL_len]; omega)]
      · rw [if_neg h1, refCounts_f l hl k (by omega), Option.bind_some, if_pos (by omega), if_pos (by rw [cntL_len]; omega), if_pos (by omega), if_pos (by rw [cntL_len]; omega)]
        have hbr : brk l i = verd (rd (cntL l) i) (rd (cntL l) ((i + 1 : Nat) : Int)) (rd l ((i + 1 : Nat) : Int) == 10) (aft (cntL l) i) 10 0 := by rw [brk, brkC, if_neg (by rw [cntL_len]; omega)]
        rw [hbr]
        obtain ⟨x, hx⟩ : ∃ x, rd (cntL l) (i : Int) = x := ⟨_, rfl⟩
        obtain ⟨y, hy⟩ : ∃ y, rd (cntL l) ((i + 1 : Nat) : Int) = y := ⟨_, rfl⟩
        rw [hx, hy]
        obtain ⟨k, rfl⟩ : ∃ q, k = q + 6 := ⟨k - 6, by omega⟩
        have j1 : ∀ o : Bool, o = opB x → frisketref06_At.j1 (k + 6) l ((i + 1 : Nat) : Int) (cntL l) x y o = some (verd x y (rd l ((i + 1 : Nat) : Int) == 10) (aft (cntL l) i) 10 0) := by
          intro o ho
          have hb9 := behind_l0 (cntL l) (by rw [cntL_len]; exact hl) 9 (by decide) (i + 1) (k + 5) (by rw [cntL_len]; omega) (by omega)
          have hb3 := behind_l0 (cntL l) (by rw [cntL_len]; exact hl) 3 (by decide) (i + 1) (k + 5) (by rw [cntL_len]; omega) (by omega)
          rw [show ((i + 1 : Nat) : Int) - 1 = (i : Int) by omega] at hb9 hb3
          simp only [frisketref06_At.j1]
          unfold frisketref06_behind.f
          rw [ew, hb9, Option.bind_some, hb3, Option.bind_some, word_f, Option.bind_some]
          have j2 : frisketref06_At.j2 (k + 5) l ((i + 1 : Nat) : Int) x y o (aftB (cntL l) (i + 1) == 9) (aftB (cntL l) (i + 1) == 3) (woB x && woB y) = some (verd x y (rd l ((i + 1 : Nat) : Int) == 10) (aft (cntL l) i) 10 0) := by
            simp only [frisketref06_At.j2]
            rw [if_pos (by omega), if_pos (by omega), verd_all, ho, show aftB (cntL l) (i + 1) = aft (cntL l) i from rfl]
            have fin : ∀ m : Bool, m = ((rd l ((i + 1 : Nat) : Int) == 10) && !opB x) → frisketref06_At.j3 (k + 4) x y (aft (cntL l) i == 9) (aft (cntL l) i == 3) (woB x && woB y) m = some (if ((rd l ((i + 1 : Nat) : Int) == 10) && !opB x) = true then 0 else if x = 11 then 2 else if opB y = true then 0 else if aft (cntL l) i = 9 then 1 else if y = 4 ∨ aft (cntL l) i = 3 then 0 else if x = 8 then 1 else if x = 7 ∨ y = 7 then 0 else if y = 5 ∨ y = 6 then 0 else if (woB x && woB y) = true then 0 else if x = 5 ∧ y = 1 then 0 else 1) := by
              intro m hm
              rw [refAt_j3, ← hm]
              simp only [beq_iff_eq]
            by_cases h2 : rd l ((i + 1 : Nat) : Int) = 10
            · rw [if_pos h2]
              exact fin _ (by rw [h2]; rfl)
            · rw [if_neg h2]
              exact fin _ (by rw [beq_eq_false_iff_ne.2 h2]; rfl)
          cases hw : woB x with
          | true =>
            rw [hw] at j2
            rw [if_pos rfl, word_f, Option.bind_some]
            exact j2
          | false =>
            rw [hw] at j2
            rw [if_neg (by decide)]
            exact j2
        unfold opB at j1
        by_cases h2 : x = 8
        · rw [if_pos h2]
          exact j1 true (by simp [h2])
        · rw [if_neg h2]
          by_cases h3 : x = 9
          · rw [if_pos h3]
            exact j1 true (by simp [h3])
          · rw [if_neg h3]
            exact j1 (x == 11) (by rw [beq_eq_false_iff_ne.2 h2, beq_eq_false_iff_ne.2 h3]; simp)
  by_cases h0 : a ≤ 0
  · rw [if_pos h0]
    exact j0 true (decide_eq_true (Or.inl h0)).symm
  · rw [if_neg h0]
    exact j0 _ (by simp [h0])
theorem at_f (l : List Int) (hl : l.length ≤ 1099511627776) (a : Int) : breaks_At.f l a = some (atP l a) := by
  unfold breaks_At.f atP
  by_cases h1 : a < 1
  · rw [if_pos h1, if_pos (by omega)]
  · rw [if_neg h1]
    by_cases h2 : a > (l.length : Int)
    · rw [if_pos h2, if_pos (by omega)]
    · rw [if_neg h2, if_neg (by omega), all_f l hl, Option.bind_some, w64 (by omega) (by omega), if_pos (by omega), if_pos (by rw [allP_len]; omega)]
      obtain ⟨i, rfl⟩ : ∃ i : Nat, a = ((i + 1 : Nat) : Int) := ⟨(a - 1).toNat, by omega⟩
      rw [show ((i + 1 : Nat) : Int) - 1 = (i : Int) by omega, rd_allP l i (by omega), Int.toNat_natCast]
theorem refAll_l0 (l : List Int) (hl : l.length ≤ 1099511627776) (d : Nat) : ∀ (i k : Nat), l.length - i = d → i ≤ l.length → 3 * l.length + 21 + d ≤ k → frisketref06_All.l0 k l ((List.range i).map (brk l)) ((i + 1 : Nat) : Int) = some (allP l) := by
  induction d with
  | zero =>
    intro i k hd hi hk
    obtain ⟨k, rfl⟩ : ∃ q, k = q + 1 := ⟨k - 1, by omega⟩
    obtain rfl : i = l.length := by omega
    simp only [frisketref06_All.l0]
    rw [if_neg (by omega)]
    rfl
  | succ d ih =>
    intro i k hd hi hk
    obtain ⟨k, rfl⟩ : ∃ q, k = q + 1 := ⟨k - 1, by omega⟩
    have e2 : wrap64 (((i + 1 : Nat) : Int) + 1) = ((i + 1 + 1 : Nat) : Int) := by rw [w64 (by omega) (by omega)]; omega
    have e3 : atP l ((i + 1 : Nat) : Int) = brk l i := by rw [atP, if_neg (by omega), show (((i + 1 : Nat) : Int) - 1).toNat = i by omega]
    simp only [frisketref06_All.l0]
    rw [if_pos (by omega), refAt_f l hl _ k (by omega), Option.bind_some, if_pos (by simp; omega), e2, e3, ← rm_succ]
    clear e2
    exact ih (i + 1) k (by omega) (by omega) (by omega)
theorem refAll_f (l : List Int) (hl : l.length ≤ 1099511627776) (k : Nat) (hk : 4 * l.length + 21 ≤ k) : frisketref06_All.f k l = some (allP l) :=
  refAll_l0 l hl l.length 0 k (by omega) (by omega) (by omega)
/-- The next place at which a line may end. -/
def nxt (l : List Int) (f : Int) : Nat → Nat → Int
  | 0, _ => (l.length : Int)
  | d + 1, i => if ((i + 1 : Nat) : Int) > f ∧ brk l i ≠ 0 then ((i + 1 : Nat) : Int) else nxt l f d (i + 1)
theorem next_l0 (l : List Int) (hl : l.length ≤ 1099511627776) (f : Int) (d : Nat) : ∀ (i k : Nat), l.length - i = d → d + 1 ≤ k → breaks_Next.l0 k l f (allP l) ((allP l).length : Int) i = some (nxt l f d i) := by
  induction d with
  | zero =>
    intro i k hd hk
    obtain ⟨k, rfl⟩ : ∃ q, k = q + 1 := ⟨k - 1, by omega⟩
    simp only [breaks_Next.l0]
    rw [if_neg (by rw [allP_len]; omega)]
    rfl
  | succ d ih =>
    intro i k hd hk
    obtain ⟨k, rfl⟩ : ∃ q, k = q + 1 := ⟨k - 1, by omega⟩
    have e2 : wrap64 ((i : Int) + 1) = ((i + 1 : Nat) : Int) := by rw [w64 (by omega) (by omega)]; omega
    have h1 := ih (i + 1) k (by omega) (by omega)
    have p : (i : Int) < ((allP l).length : Int) := by rw [allP_len]; omega
    simp only [breaks_Next.l0, nxt]
    rw [if_pos p, if_pos (by omega), if_pos p, e2, rd_allP l i (by omega), h1]
    by_cases h2 : ((i + 1 : Nat) : Int) > f
    · rw [if_pos h2]
      by_cases h3 : brk l i = 0
      · rw [if_pos h3, if_neg (fun h => h.2 h3)]
      · rw [if_neg h3, if_pos ⟨h2, h3⟩]
    · rw [if_neg h2, if_neg (fun h => h2 h.1)]
def nextP (l : List Int) (f : Int) : Int := nxt l (mx f 0) l.length 0
theorem next_f (l : List Int) (hl : l.length ≤ 1099511627776) (f : Int) (k : Nat) (hk : l.length + 1 ≤ k) : breaks_Next.f k l f = some (nextP l f) := by
  unfold breaks_Next.f
  rw [all_f l hl, Option.bind_some]
  exact next_l0 l hl _ l.length 0 k (by omega) hk
theorem brk_last (l : List Int) (i : Nat) (h : i + 1 = l.length) : brk l i = 2 := by rw [brk, brkC, if_pos (by rw [cntL_len]; exact h)]
theorem verd_vals (a b : Int) (m : Bool) (h : Int) : verd a b m h 10 0 = 0 ∨ verd a b m h 10 0 = 1 ∨ verd a b m h 10 0 = 2 := by
  rw [verd_all]
  repeat' split
  all_goals simp
theorem brk_vals (l : List Int) (i : Nat) : brk l i = 0 ∨ brk l i = 1 ∨ brk l i = 2 := by
  rw [brk, brkC]
  split
  · simp
  · exact verd_vals _ _ _ _
theorem refNext_l0 (l : List Int) (hl : l.length ≤ 1099511627776) (f : Int) (d : Nat) : ∀ (i k : Nat), l.length - i = d → 3 * l.length + 21 + d ≤ k → frisketref06_Next.l0 k l f ((i + 1 : Nat) : Int) = some (nxt l f d i) := by
  induction d with
  | zero =>
    intro i k hd hk
    obtain ⟨k, rfl⟩ : ∃ q, k = q + 1 := ⟨k - 1, by omega⟩
    simp only [frisketref06_Next.l0]
    rw [if_neg (by omega)]
    rfl
  | succ d ih =>
    intro i k hd hk
    obtain ⟨k, rfl⟩ : ∃ q, k = q + 1 := ⟨k - 1, by omega⟩
    have e2 : wrap64 (((i + 1 : Nat) : Int) + 1) = ((i + 1 + 1 : Nat) : Int) := by rw [w64 (by omega) (by omega)]; omega
    have e3 : atP l ((i + 1 : Nat) : Int) = brk l i := by rw [atP, if_neg (by omega), show (((i + 1 : Nat) : Int) - 1).toNat = i by omega]
    have h1 := ih (i + 1) k (by omega) (by omega)
    have hv := brk_vals l i
    simp only [frisketref06_Next.l0, nxt]
    by_cases h4 : d = 0
    · subst h4
      rw [if_neg (by omega)]
      simp only [nxt]
      split
      · congr 1; omega
      · rfl
    · rw [if_pos (by omega), refAt_f l hl _ k (by omega), Option.bind_some, e2, e3, h1]
      by_cases h2 : ((i + 1 : Nat) : Int) > f
      · rw [if_pos h2]
        by_cases h3 : brk l i = 0
        · rw [if_neg (by omega), if_neg (fun h => h.2 h3)]
        · rw [if_pos (by omega), if_pos ⟨h2, h3⟩]
      · rw [if_neg h2, if_neg (fun h => h2 h.1)]
theorem refNext_f (l : List Int) (hl : l.length ≤ 1099511627776) (f : Int) (k : Nat) (hk : 4 * l.length + 22 ≤ k) : frisketref06_Next.f k l f = some (nextP l f) := by
  obtain ⟨k, rfl⟩ : ∃ q, k = q + 1 := ⟨k - 1, by omega⟩
  unfold frisketref06_Next.f nextP mx
  by_cases h : f < 0
  · rw [if_pos h, if_pos h]
    exact refNext_l0 l hl 0 l.length 0 k (by omega) (by omega)
  · rw [if_neg h, if_neg h]
    exact refNext_l0 l hl f l.length 0 k (by omega) (by omega)
end Go.Proofs.Ytbcflgiapiclgaa.Pure
