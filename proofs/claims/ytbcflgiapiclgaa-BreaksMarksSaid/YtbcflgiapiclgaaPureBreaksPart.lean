/- The pure side of the law BreaksPart: at every kinds and place its Lean function answers true. -/
import Derived.Test.YtbcflgiapiclgaaP18
import Derived.Test.YtbcflgiapiclgaaPureBreaksGo
namespace Go.Proofs.Ytbcflgiapiclgaa.Pure
open Go.RowKit Go.Proofs.Ytbcflgiapiclgaa.P Go.Proofs.YtbcflgiapiclgaaW.PrintWords Go.Proofs.YtbcflgiapiclgaaW.PrintLast Go.Proofs.YtbcflgiapiclgaaW.PrintMore
set_option linter.unusedVariables false
set_option linter.unusedSimpArgs false

theorem rd_take (l : List Int) (n j : Nat) (h : j < n) : rd (l.take n) (j : Int) = rd l (j : Int) := by
  unfold rd
  rw [Int.toNat_natCast, List.getD_eq_getElem?_getD, List.getD_eq_getElem?_getD, List.getElem?_take, if_pos h]
theorem rd_drop (l : List Int) (n j : Nat) : rd (l.drop n) (j : Int) = rd l ((n + j : Nat) : Int) := by
  unfold rd
  rw [Int.toNat_natCast, Int.toNat_natCast, List.getD_eq_getElem?_getD, List.getD_eq_getElem?_getD, List.getElem?_drop]
theorem cnt_take (l : List Int) (n : Nat) : ∀ j : Nat, j < n → cnt (l.take n) j = cnt l j
  | 0, h => by simp only [cnt]; rw [rd_take l n 0 h]
  | j + 1, h => by simp only [cnt]; rw [cnt_take l n j (by omega), rd_take l n (j + 1) h]
theorem cnt_drop (l : List Int) (n : Nat) (h : rd l (n : Int) = 11) : ∀ j : Nat, cnt (l.drop (n + 1)) j = cnt l (n + 1 + j)
  | 0 => by
    simp only [cnt]
    rw [rd_drop, (cnt_end l n).2 h]
  | j + 1 => by
    simp only [cnt]
    rw [cnt_drop l n h j, rd_drop]
    rfl
theorem aft_take (l : List Int) (n : Nat) (hn : n ≤ l.length) : ∀ j : Nat, j < n → aft (cntL (l.take n)) j = aft (cntL l) j
  | 0, h => by simp only [aft]; rw [rd_cntL l 0 (by omega), rd_cntL _ 0 (by rw [List.length_take]; omega), cnt_take l n 0 h]
  | j + 1, h => by simp only [aft]; rw [aft_take l n hn j (by omega), rd_cntL l (j + 1) (by omega), rd_cntL _ (j + 1) (by rw [List.length_take]; omega), cnt_take l n (j + 1) h]
theorem aft_end (l : List Int) (n : Nat) (hn : n < l.length) (h : rd l (n : Int) = 11) : aft (cntL l) n = 11 := by
  rw [aft_B, rd_cntL l n hn, (cnt_end l n).2 h]
  rfl
theorem aft_drop (l : List Int) (n : Nat) (h : rd l (n : Int) = 11) : ∀ j : Nat, n + 1 + j < l.length → aft (cntL (l.drop (n + 1))) j = aft (cntL l) (n + 1 + j)
  | 0, hj => by
    have e := aft_end l n (by omega) h
    rw [show n + 1 + 0 = n + 1 from rfl]
    simp only [aft]
    rw [e, rd_cntL l (n + 1) (by omega), rd_cntL _ 0 (by rw [List.length_drop]; omega), cnt_drop l n h 0]
  | j + 1, hj => by
    rw [show n + 1 + (j + 1) = n + 1 + j + 1 from rfl]
    simp only [aft]
    rw [aft_drop l n h j (by omega), rd_cntL l (n + 1 + j + 1) (by omega), rd_cntL _ (j + 1) (by rw [List.length_drop]; omega), cnt_drop l n h (j + 1)]
    rfl
theorem brk_take (l : List Int) (n j : Nat) (hn : n ≤ l.length) (h : j + 1 < n) : brk (l.take n) j = brk l j := by
  have hl : (l.take n).length = n := by rw [List.length_take]; omega
  rw [brk, brkC, if_neg (by rw [cntL_len]; omega), brk, brkC, if_neg (by rw [cntL_len]; omega), aft_take l n hn j (by omega), rd_cntL _ j (by omega), rd_cntL _ (j + 1) (by omega), rd_cntL _ j (by omega), rd_cntL _ (j + 1) (by omega), cnt_take l n j (by omega), cnt_take l n (j + 1) h, rd_take l n (j + 1) h]
theorem brk_drop (l : List Int) (n j : Nat) (h : rd l (n : Int) = 11) (hj : n + 1 + j < l.length) : brk (l.drop (n + 1)) j = brk l (n + 1 + j) := by
  have hl : (l.drop (n + 1)).length = l.length - (n + 1) := List.length_drop
  by_cases e : n + 1 + j + 1 = l.length
  · rw [brk_last l _ e, brk_last _ j (by omega)]
  · rw [brk, brkC, if_neg (by rw [cntL_len]; omega), brk, brkC, if_neg (by rw [cntL_len]; omega), aft_drop l n h j hj, rd_cntL _ j (by omega), rd_cntL _ (j + 1) (by omega), rd_cntL _ (n + 1 + j) (by omega), rd_cntL _ (n + 1 + j + 1) (by omega), cnt_drop l n h j, cnt_drop l n h (j + 1), rd_drop]
    rfl
theorem allP_parts (l : List Int) (n : Nat) (hn : n + 1 < l.length) (h : rd l (n : Int) = 11) : allP (l.take (n + 1)) ++ allP (l.drop (n + 1)) = allP l := by
  apply List.ext_getElem
  · rw [List.length_append, allP_len, allP_len, allP_len, List.length_take, List.length_drop]; omega
  · intro j h1 h2
    have hl : (allP (l.take (n + 1))).length = n + 1 := by rw [allP_len, List.length_take]; omega
    rw [allP_len] at h2
    have key : ∀ (x : List Int) (i : Nat) (hi : i < (allP x).length), (allP x)[i] = brk x i := fun x i hi => by simp [allP]
    rw [key l j]
    by_cases hj : j < n + 1
    · rw [List.getElem_append_left (by omega), key]
      by_cases e : j = n
      · subst e
        rw [brk_last _ j (by rw [List.length_take]; omega)]
        have := brk_must l j (by omega)
        rw [if_neg (by omega), h] at this
        exact (beq_iff_eq.1 (this.trans rfl)).symm
      · exact brk_take l (n + 1) j (by omega) (by omega)
    · rw [List.getElem_append_right (by omega), key]
      have e : j - (allP (l.take (n + 1))).length = j - (n + 1) := by rw [hl]
      rw [e, brk_drop l n _ h (by omega)]
      congr 1
      omega
theorem BreaksPart : ∀ (l0 : List Int) (a1 : Int), l0.length * 8 ≤ 140737488351232 → l0.length ≤ maxLen → (∀ e ∈ l0, (Lit.int .i64 e).wf = true) → (Lit.int .i64 a1).wf = true → ∃ k, frisketlaw06_BreaksPart.f k l0 a1 = some true := by
  intro l a _ _ _ _
  refine ⟨1001, ?_⟩
  unfold frisketlaw06_BreaksPart.f
  have quick : frisketlaw06_BreaksPart.j0 1001 l a true = some true := by
    simp only [frisketlaw06_BreaksPart.j0, if_true, alive06 1000 (by decide)]
    rfl
  by_cases h : (l.length : Int) > 80
  · rw [if_pos h]; exact quick
  · rw [if_neg h]
    by_cases h1 : a < 1
    · rw [if_pos h1]; exact quick
    · rw [if_neg h1]
      by_cases h2 : a ≥ (l.length : Int)
      · rw [if_pos h2]; exact quick
      · have hl : l.length ≤ 80 := by omega
        have hl' : l.length ≤ 1099511627776 := by omega
        rw [if_neg h2, at_f l hl', Option.bind_some]
        obtain ⟨n, rfl⟩ : ∃ n : Nat, a = ((n + 1 : Nat) : Int) := ⟨(a - 1).toNat, by omega⟩
        rw [atP, if_neg (by omega), show (((n + 1 : Nat) : Int) - 1).toNat = n by omega]
        by_cases h3 : brk l n = 2
        · have h4 : rd l (n : Int) = 11 := by
            have := brk_must l n (by omega)
            rw [if_neg (by omega), h3] at this
            exact beq_iff_eq.1 this.symm
          have ht : (l.take (n + 1)).length ≤ 1099511627776 := by rw [List.length_take]; omega
          have hd : (l.drop (n + 1)).length ≤ 1099511627776 := by rw [List.length_drop]; omega
          rw [h3]
          simp only [frisketlaw06_BreaksPart.j0, bne_self_eq_false, Bool.false_eq_true, if_false]
          have ew : wrap64 (((n + 1 : Nat) : Int) - 1) = (n : Int) := by rw [w64 (by omega) (by omega)]; omega
          rw [if_pos (by omega), if_pos (by omega), Int.toNat_natCast, all_f _ ht, Option.bind_some, all_f _ hd, Option.bind_some, if_pos (by rw [allP_len, allP_len, List.length_take, List.length_drop]; omega), alive06 1000 (by decide), Option.bind_some, if_pos rfl, all_f l hl', Option.bind_some,
            ints_eq _ _ (allP_parts l n (by omega) h4) (by rw [allP_parts l n (by omega) h4, allP_len]; exact hl') 1000 (by rw [allP_parts l n (by omega) h4, allP_len]; omega), Option.bind_some, if_pos rfl, ew]
          clear ew
          rw [if_pos (by omega), if_pos (by omega), h4]
          rfl
        · have : (brk l n != 2) = true := bne_iff_ne.2 h3
          rw [this]; exact quick
end Go.Proofs.Ytbcflgiapiclgaa.Pure
