/- The pure side of the law BreaksMarks: at every kinds its Lean function answers true. -/
import Derived.Test.YtbcflgiapiclgaaP20
import Derived.Test.YtbcflgiapiclgaaPureBreaksPart
namespace Go.Proofs.Ytbcflgiapiclgaa.Pure
open Go.RowKit Go.Proofs.Ytbcflgiapiclgaa.P Go.Proofs.YtbcflgiapiclgaaW.PrintWords Go.Proofs.YtbcflgiapiclgaaW.PrintLast Go.Proofs.YtbcflgiapiclgaaW.PrintMore
set_option linter.unusedVariables false
set_option linter.unusedSimpArgs false

theorem norm_vals (a k : Int) (ha : 0 ≤ a ∧ a ≤ 11 ∧ a ≠ 10) : 0 ≤ norm a k ∧ norm a k ≤ 11 ∧ norm a k ≠ 10 := by
  unfold norm
  by_cases h1 : k < 0 ∨ k > 11
  · rw [if_pos h1]; decide
  · rw [if_neg h1]
    by_cases h2 : k = 10
    · rw [if_pos h2]
      cases opB a with
      | true => rw [if_pos rfl]; decide
      | false => rw [if_neg (by decide)]; exact ha
    · rw [if_neg h2]; omega
theorem cnt_vals (l : List Int) : ∀ i : Nat, 0 ≤ cnt l i ∧ cnt l i ≤ 11 ∧ cnt l i ≠ 10
  | 0 => norm_vals _ _ (by decide)
  | i + 1 => norm_vals _ _ (cnt_vals l i)
/-- Kinds that count as they are. -/
def Plain (l : List Int) : Prop := ∀ j : Nat, j < l.length → 0 ≤ rd l (j : Int) ∧ rd l (j : Int) ≤ 11 ∧ rd l (j : Int) ≠ 10
theorem cnt_plain (l : List Int) (h : Plain l) (i : Nat) (hi : i < l.length) : cnt l i = rd l (i : Int) := by
  have := h i hi
  rw [cnt_last, norm, if_neg (by omega), if_neg this.2.2]
theorem rd_snoc_lt (l : List Int) (x : Int) (j : Nat) (h : j < l.length) : rd (l ++ [x]) (j : Int) = rd l (j : Int) := by
  unfold rd
  rw [Int.toNat_natCast, List.getD_eq_getElem?_getD, List.getD_eq_getElem?_getD, List.getElem?_append_left h]
theorem rd_snoc (l : List Int) (x : Int) : rd (l ++ [x]) (l.length : Int) = x := by
  unfold rd
  rw [Int.toNat_natCast, List.getD_eq_getElem?_getD, List.getElem?_append_right (Nat.le_refl _)]
  simp
theorem aft_snoc (l : List Int) (x : Int) : ∀ j : Nat, j < l.length → aft (l ++ [x]) j = aft l j
  | 0, h => by simp only [aft]; rw [rd_snoc_lt l x 0 h]
  | j + 1, h => by simp only [aft]; rw [aft_snoc l x j (by omega), rd_snoc_lt l x (j + 1) h]
/-- What a line's end between two groups is. -/
def vv (few : List Int) (j : Nat) : Int := verd (rd few (j : Int)) (rd few ((j + 1 : Nat) : Int)) false (aft few j) 10 0
/-- What stands in few and want when i of l are over. -/
structure Inv (l : List Int) (i : Nat) (few want : List Int) : Prop where
  len : want.length = few.length
  le : few.length ≤ i
  pos : 0 < i → 0 < few.length
  plain : Plain few
  ends : ∀ j : Nat, j + 1 < few.length → rd want (j : Int) = vv few j
  lastW : 0 < i → rd want ((few.length - 1 : Nat) : Int) = brk l (i - 1)
  lastF : 0 < i → rd few ((few.length - 1 : Nat) : Int) = cnt l (i - 1)
  lastA : 0 < i → aft few (few.length - 1) = aft (cntL l) (i - 1)
/-- Does the mark at i go with what is ahead? -/
def goes (l : List Int) (i : Nat) : Bool := decide (0 < i) && (rd l (i : Int) == 10 && !opB (last l i))
theorem verd_m (a b h : Int) (m : Bool) (hm : (m && !opB a) = false) : verd a b m h 10 0 = verd a b false h 10 0 := by
  rw [verd_all, verd_all, hm]
  rfl
theorem inv_keep {l few want : List Int} {i : Nat} (H : Inv l i few want) (hi : i < l.length) (hg : goes l i = false) : Inv l (i + 1) (few ++ [cnt l i]) (want ++ [brk l i]) := by
  obtain ⟨h1, h2, h3, h4, h5, h6, h7, h8⟩ := H
  have hlen : (few ++ [cnt l i]).length = few.length + 1 := by simp
  refine ⟨by simp [h1], by rw [hlen]; omega, fun _ => by rw [hlen]; omega, ?_, ?_, fun _ => ?_, fun _ => ?_, fun _ => ?_⟩
  · intro j hj
    rw [hlen] at hj
    by_cases e : j = few.length
    · subst e; rw [rd_snoc]; exact cnt_vals l i
    · rw [rd_snoc_lt few _ j (by omega)]; exact h4 j (by omega)
  · intro j hj
    rw [hlen] at hj
    rw [rd_snoc_lt want _ j (by omega)]
    unfold vv
    rw [rd_snoc_lt few _ j (by omega), aft_snoc few _ j (by omega)]
    by_cases e : j + 1 = few.length
    · have hi0 : 0 < i := by omega
      have ej : j = few.length - 1 := by omega
      rw [e, rd_snoc, ej, h6 hi0, h7 hi0, h8 hi0, brk, brkC, if_neg (by rw [cntL_len]; omega), rd_cntL l (i - 1) (by omega), show i - 1 + 1 = i by omega, rd_cntL l i hi]
      refine verd_m _ _ _ _ ?_
      unfold goes at hg
      rw [decide_eq_true hi0, Bool.true_and] at hg
      rw [← hg]
      congr 3
      cases i with
      | zero => omega
      | succ i => rfl
    · rw [rd_snoc_lt few _ (j + 1) (by omega)]
      exact h5 j (by omega)
  · rw [hlen, Nat.add_sub_cancel, Nat.add_sub_cancel, ← h1, rd_snoc]
  · rw [hlen, Nat.add_sub_cancel, Nat.add_sub_cancel, rd_snoc]
  · rw [hlen, Nat.add_sub_cancel, Nat.add_sub_cancel]
    cases hf : few.length with
    | zero =>
      have : i = 0 := by
        by_cases g : 0 < i
        · have := h3 g; omega
        · omega
      subst this
      have hnil : few = [] := List.length_eq_zero_iff.1 hf
      subst hnil
      simp only [aft]
      rw [rd_cntL l 0 hi]
      rfl
    | succ n =>
      have hi0 : 0 < i := by omega
      have e8 := h8 hi0
      rw [hf, Nat.add_sub_cancel] at e8
      obtain ⟨i, rfl⟩ : ∃ q, i = q + 1 := ⟨i - 1, by omega⟩
      rw [Nat.add_sub_cancel] at e8
      simp only [aft]
      rw [aft_snoc few _ n (by omega), ← hf, rd_snoc, rd_cntL l (i + 1) hi, e8]
theorem cnt_goes {l : List Int} {i : Nat} (hi : i < l.length) (hg : goes l i = true) : ∃ q, i = q + 1 ∧ cnt l i = cnt l q ∧ opB (cnt l q) = false ∧ rd l (i : Int) = 10 := by
  unfold goes at hg
  simp only [Bool.and_eq_true, decide_eq_true_eq, beq_iff_eq, Bool.not_eq_true'] at hg
  obtain ⟨g1, g2, g3⟩ := hg
  obtain ⟨q, rfl⟩ : ∃ q, i = q + 1 := ⟨i - 1, by omega⟩
  refine ⟨q, rfl, ?_, g3, g2⟩
  rw [cnt_last, norm, g2, if_neg (by decide), if_pos rfl, g3]
  rfl
theorem rd_set_last (l : List Int) (x : Int) (j : Nat) (hl : 0 < l.length) : rd (l.set (l.length - 1) x) (j : Int) = if j = l.length - 1 then x else rd l (j : Int) := by
  unfold rd
  rw [Int.toNat_natCast, List.getD_eq_getElem?_getD, List.getD_eq_getElem?_getD, List.getElem?_set]
  by_cases e : j = l.length - 1
  · rw [if_pos e.symm, if_pos e, if_pos (by omega)]; rfl
  · rw [if_neg (fun h => e h.symm), if_neg e]
theorem inv_goes {l few want : List Int} {i : Nat} (H : Inv l i few want) (hi : i < l.length) (hg : goes l i = true) : Inv l (i + 1) few (want.set (want.length - 1) (brk l i)) := by
  obtain ⟨h1, h2, h3, h4, h5, h6, h7, h8⟩ := H
  obtain ⟨q, rfl, c1, c2, c3⟩ := cnt_goes hi hg
  have hp := h3 (by omega)
  refine ⟨by simp [h1], by omega, fun _ => hp, h4, ?_, fun _ => ?_, fun _ => ?_, fun _ => ?_⟩
  · intro j hj
    rw [rd_set_last want _ j (by omega), if_neg (by omega)]
    exact h5 j hj
  · rw [rd_set_last want _ _ (by omega), if_pos (by omega)]; rfl
  · rw [h7 (by omega), Nat.add_sub_cancel, Nat.add_sub_cancel, c1]
  · rw [h8 (by omega), Nat.add_sub_cancel, Nat.add_sub_cancel]
    have hne : ∀ a : Int, opB a = false → ahdW (cnt l q) a = a := by
      intro a ha
      unfold ahdW
      have : a ≠ 8 := by intro e; rw [e] at ha; cases ha
      rw [if_pos (bne_iff_ne.2 this)]
    have e1 : aft (cntL l) q = cnt l q := by
      rw [aft_B, rd_cntL l q (by omega)]
      unfold ahdW
      have : cnt l q ≠ 8 := by intro e; rw [e] at c2; cases c2
      rw [if_pos (bne_iff_ne.2 this)]
    simp only [aft]
    rw [rd_cntL l (q + 1) hi, c1, e1, hne _ c2]
theorem inv_end {l few want : List Int} (H : Inv l l.length few want) : allP few = want := by
  obtain ⟨h1, h2, h3, h4, h5, h6, h7, h8⟩ := H
  have hc : cntL few = few := by
    apply List.ext_getElem
    · exact cntL_len few
    · intro j g1 g2
      have : (cntL few)[j] = cnt few j := by simp [cntL]
      rw [this, cnt_plain few h4 j g2, rd_at few j g2]
  apply List.ext_getElem
  · rw [allP_len, h1]
  · intro j g1 g2
    have key : (allP few)[j] = brk few j := by simp [allP]
    rw [key, ← rd_at want j g2]
    rw [allP_len] at g1
    by_cases e : j + 1 = few.length
    · have hl0 : 0 < l.length := by omega
      rw [brk_last few j e, show j = few.length - 1 by omega, h6 hl0, brk_last l _ (by omega)]
    · rw [h5 j (by omega), brk, brkC, if_neg (by rw [cntL_len]; exact e), hc]
      unfold vv
      have := h4 (j + 1) (by omega)
      rw [beq_eq_false_iff_ne.2 this.2.2]
theorem marks_l0 (l : List Int) (hl : l.length ≤ 80) (d : Nat) : ∀ (i k : Nat) (few want : List Int), l.length - i = d → i ≤ l.length → Inv l i few want → 2 * d + 500 ≤ k → frisketlaw06_BreaksMarks.l0 k l (allP l) (cntL l) few want i = some true := by
  have hl' : l.length ≤ 1099511627776 := by omega
  induction d with
  | zero =>
    intro i k few want hd hi H hk
    obtain ⟨k, rfl⟩ : ∃ q, k = q + 1 := ⟨k - 1, by omega⟩
    obtain rfl : i = l.length := by omega
    have hw := inv_end H
    have := H.le
    have := H.len
    simp only [frisketlaw06_BreaksMarks.l0]
    rw [if_neg (by omega), alive06 k (by omega), Option.bind_some, if_pos rfl, all_f few (by omega), Option.bind_some, ints_eq _ _ hw (by rw [allP_len]; omega) k (by rw [allP_len]; omega)]
    rfl
  | succ d ih =>
    intro i k few want hd hi H hk
    obtain ⟨k, rfl⟩ : ∃ q, k = q + 2 := ⟨k - 2, by omega⟩
    have hi' : i < l.length := by omega
    have hle := H.le
    have hlen := H.len
    have main : ∀ b : Bool, b = goes l i → frisketlaw06_BreaksMarks.j2 (k + 1) l (allP l) (cntL l) few want i b = some true := by
      intro b hb
      have e2 : wrap64 ((i : Int) + 1) = ((i + 1 : Nat) : Int) := by rw [w64 (by omega) (by omega)]; omega
      simp only [frisketlaw06_BreaksMarks.j2]
      rw [e2]
      clear e2
      cases b with
      | true =>
        obtain ⟨q, e, c1, c2, c3⟩ := cnt_goes hi' hb.symm
        have hp := H.pos (by omega)
        have h0 : brk l (i - 1) = 0 := by
          rw [brk, brkC, if_neg (by rw [cntL_len]; omega), show i - 1 + 1 = i by omega, c3, rd_cntL l (i - 1) (by omega), show i - 1 = q by omega, verd_all, c2]
          rfl
        have e3 : wrap64 ((i : Int) - 1) = ((i - 1 : Nat) : Int) := by rw [w64 (by omega) (by omega)]; omega
        have e4 : wrap64 ((want.length : Int) - 1) = ((want.length - 1 : Nat) : Int) := by rw [w64 (by omega) (by omega)]; omega
        rw [if_pos rfl, e3, e4]
        clear e3 e4
        rw [if_pos (by omega), if_pos (by rw [allP_len]; omega), rd_allP l (i - 1) (by omega), h0, if_pos rfl, if_pos (by omega), if_pos (by rw [allP_len]; omega), if_pos (by omega), if_pos (by omega), rd_allP l i hi', Int.toNat_natCast]
        exact ih (i + 1) k _ _ (by omega) (by omega) (inv_goes H hi' hb.symm) (by omega)
      | false =>
        rw [if_neg (by decide), if_pos (by omega), if_pos (by rw [cntL_len]; omega), if_pos (by omega), if_pos (by rw [allP_len]; omega), if_pos (by omega), rd_cntL l i hi', rd_allP l i hi']
        exact ih (i + 1) k _ _ (by omega) (by omega) (inv_keep H hi' hb.symm) (by omega)
    simp only [frisketlaw06_BreaksMarks.l0]
    rw [if_pos (by omega)]
    unfold goes at main
    by_cases h1 : (i : Int) > 0
    · rw [if_pos h1, if_pos (by omega)]
      obtain ⟨q, rfl⟩ : ∃ q, i = q + 1 := ⟨i - 1, by omega⟩
      have e3 : wrap64 (((q + 1 : Nat) : Int) - 1) = (q : Int) := by rw [w64 (by omega) (by omega)]; omega
      rw [decide_eq_true (show 0 < q + 1 by omega), Bool.true_and] at main
      by_cases h2 : rd l ((q + 1 : Nat) : Int) = 10
      · rw [h2, beq_self_eq_true, Bool.true_and] at main
        rw [if_pos h2, e3]
        clear e3
        rw [if_pos (by omega), if_pos (by rw [cntL_len]; omega), rd_cntL l q (by omega)]
        simp only [last, opB] at main
        by_cases g1 : cnt l q = 8
        · rw [if_pos g1]; exact main false (by rw [g1]; rfl)
        · rw [if_neg g1]
          by_cases g2 : cnt l q = 9
          · rw [if_pos g2]; exact main false (by rw [g2]; rfl)
          · rw [if_neg g2]; exact main _ (by rw [beq_eq_false_iff_ne.2 g1, beq_eq_false_iff_ne.2 g2]; rfl)
      · rw [if_neg h2]; exact main false (by rw [beq_eq_false_iff_ne.2 h2]; rfl)
    · rw [if_neg h1]; exact main false (by rw [decide_eq_false (show ¬ 0 < i by omega)]; rfl)
theorem BreaksMarks : ∀ (l0 : List Int), l0.length * 8 ≤ 140737488351232 → l0.length ≤ maxLen → (∀ e ∈ l0, (Lit.int .i64 e).wf = true) → ∃ k, frisketlaw06_BreaksMarks.f k l0 = some true := by
  intro l _ _ _
  refine ⟨2000, ?_⟩
  unfold frisketlaw06_BreaksMarks.f
  by_cases h : (l.length : Int) > 80
  · rw [if_pos h, alive06 2000 (by decide)]
    rfl
  · have hl : l.length ≤ 80 := by omega
    have hl' : l.length ≤ 1099511627776 := by omega
    rw [if_neg h, all_f l hl', Option.bind_some, counts_f l hl' 2000 (by omega), Option.bind_some, if_pos (by rw [allP_len]), cntL_len]
    simp only [bne_self_eq_false, frisketlaw06_BreaksMarks.j0, Bool.false_eq_true, if_false]
    exact marks_l0 l hl l.length 0 1999 [] [] (by omega) (by omega) ⟨rfl, by simp, fun h => by omega, fun j h => by simp at h, fun j h => by simp at h, fun h => by omega, fun h => by omega, fun h => by omega⟩ (by omega)
end Go.Proofs.Ytbcflgiapiclgaa.Pure
