/- What breaks.Counts and breaks.All answer, and the document's At, in plain Lean. -/
import Derived.Test.YtbcflgiapiclgaaP3
import Derived.Test.YtbcflgiapiclgaaP7
import Derived.Test.YtbcflgiapiclgaaP14
import Derived.Test.YtbcflgiapiclgaaP16
import Derived.Test.YtbcflgiapiclgaaP8
import Derived.Test.YtbcflgiapiclgaaP15
import Derived.Test.YtbcflgiapiclgaaP1
import Derived.Test.YtbcflgiapiclgaaHAll
import Derived.Test.YtbcflgiapiclgaaOp
namespace Go.Proofs.Ytbcflgiapiclgaa.Pure
open Go.RowKit Go.Proofs.Ytbcflgiapiclgaa.P Go.Proofs.YtbcflgiapiclgaaW.PrintWords Go.Proofs.YtbcflgiapiclgaaW.PrintLast Go.Proofs.YtbcflgiapiclgaaW.PrintMore
set_option linter.unusedVariables false
set_option linter.unusedSimpArgs false

theorem w64 {a : Int} (h : -9223372036854775808 ≤ a) (h' : a ≤ 9223372036854775807) : wrap64 a = a := by unfold wrap64; omega
theorem rd_at (l : List Int) (i : Nat) (h : i < l.length) : rd l (i : Int) = l[i] := by
  unfold rd
  simp [List.getD_eq_getElem?_getD, List.getElem?_eq_getElem h]
theorem rdm (f : Nat → Int) (n i : Nat) (h : i < n) : rd ((List.range n).map f) (i : Int) = f i := by
  rw [rd_at _ i (by simpa using h)]
  simp
theorem rm_succ (f : Nat → Int) (n : Nat) : (List.range (n + 1)).map f = (List.range n).map f ++ [f n] := by
  rw [List.range_succ, List.map_append]
  rfl
/-- A list of whole numbers is like itself. -/
theorem ints_l0 (a : List Int) (ha : a.length ≤ 1099511627776) (d : Nat) : ∀ (j k : Nat), a.length - j = d → d + 1 ≤ k → frisketref01_Ints.l0 k a a j = some true := by
  induction d with
  | zero =>
    intro j k hd hk
    obtain ⟨k, rfl⟩ : ∃ q, k = q + 1 := ⟨k - 1, by omega⟩
    simp only [frisketref01_Ints.l0]
    rw [if_neg (by omega)]
  | succ d ih =>
    intro j k hd hk
    obtain ⟨k, rfl⟩ : ∃ q, k = q + 1 := ⟨k - 1, by omega⟩
    have e2 : wrap64 ((j : Int) + 1) = ((j + 1 : Nat) : Int) := by rw [w64 (by omega) (by omega)]; omega
    simp only [frisketref01_Ints.l0]
    rw [if_pos (by omega), if_pos (by omega), if_pos (by omega), if_pos trivial, e2]
    exact ih (j + 1) k (by omega) (by omega)
theorem ints_eq (a b : List Int) (h : a = b) (ha : a.length ≤ 1099511627776) (k : Nat) (hk : a.length + 1 ≤ k) : frisketref01_Ints.f k a b = some true := by
  subst h
  unfold frisketref01_Ints.f
  rw [if_pos rfl]
  exact ints_l0 a ha a.length 0 k (by omega) hk
theorem same_l0 (a : List Int) (ha : a.length ≤ 1099511627776) (d : Nat) : ∀ (j k : Nat), a.length - j = d → d + 1 ≤ k → frisketlaw06_same.l0 k a a j = some true := by
  induction d with
  | zero =>
    intro j k hd hk
    obtain ⟨k, rfl⟩ : ∃ q, k = q + 1 := ⟨k - 1, by omega⟩
    simp only [frisketlaw06_same.l0]
    rw [if_neg (by omega)]
  | succ d ih =>
    intro j k hd hk
    obtain ⟨k, rfl⟩ : ∃ q, k = q + 1 := ⟨k - 1, by omega⟩
    have e2 : wrap64 ((j : Int) + 1) = ((j + 1 : Nat) : Int) := by rw [w64 (by omega) (by omega)]; omega
    simp only [frisketlaw06_same.l0]
    rw [if_pos (by omega), if_pos (by omega), if_pos (by omega), if_pos trivial, e2]
    exact ih (j + 1) k (by omega) (by omega)
theorem same_eq (a b : List Int) (h : a = b) (ha : a.length ≤ 1099511627776) (k : Nat) (hk : a.length + 1 ≤ k) : frisketlaw06_same.f k a b = some true := by
  subst h
  unfold frisketlaw06_same.f
  rw [if_pos rfl]
  exact same_l0 a ha a.length 0 k (by omega) hk
theorem alive06 (k : Nat) (hk : 60 ≤ k) : frisketlaw06_alive.f k = some true := by
  have h : frisketlaw06_alive.f 60 = some true := by decide +kernel
  exact at_rounds (g := fun k => frisketlaw06_alive.f k) (fun k => frisketlaw06_alive.mono k) hk h
/-- What a kind counts as, behind one that counts as a. -/
def norm (a k : Int) : Int := if k < 0 ∨ k > 11 then 0 else if k = 10 then (if opB a = true then 0 else a) else k
def cnt (l : List Int) : Nat → Int
  | 0 => norm 11 (rd l (0 : Nat))
  | i + 1 => norm (cnt l i) (rd l ((i + 1 : Nat) : Int))
/-- What it counts as ahead of i. -/
def last (l : List Int) : Nat → Int
  | 0 => 11
  | i + 1 => cnt l i
theorem cnt_last (l : List Int) (i : Nat) : cnt l i = norm (last l i) (rd l (i : Int)) := by cases i <;> rfl
def cntL (l : List Int) : List Int := (List.range l.length).map (cnt l)
theorem cntL_len (l : List Int) : (cntL l).length = l.length := by simp [cntL]
theorem rd_cntL (l : List Int) (i : Nat) (h : i < l.length) : rd (cntL l) (i : Int) = cnt l i := rdm _ _ _ h
theorem open_f (a : Int) : breaks_open.f a = some (opB a) := by
  unfold breaks_open.f opB
  by_cases h1 : a = 8
  · simp [h1]
  · by_cases h2 : a = 9
    · simp [h2]
    · rw [if_neg h1, if_neg h2, beq_eq_false_iff_ne.2 h1, beq_eq_false_iff_ne.2 h2]; rfl
theorem counts_l0 (l : List Int) (hl : l.length ≤ 1099511627776) (d : Nat) : ∀ (i k : Nat), l.length - i = d → i ≤ l.length → 3 * d + 1 ≤ k → breaks_Counts.l0 k ((List.range i).map (cnt l)) (last l i) l (l.length : Int) i = some (cntL l) := by
  induction d with
  | zero =>
    intro i k hd hi hk
    obtain ⟨k, rfl⟩ : ∃ q, k = q + 1 := ⟨k - 1, by omega⟩
    obtain rfl : i = l.length := by omega
    simp only [breaks_Counts.l0]
    rw [if_neg (by omega)]
    rfl
  | succ d ih =>
    intro i k hd hi hk
    obtain ⟨k, rfl⟩ : ∃ q, k = q + 3 := ⟨k - 3, by omega⟩
    have e2 : wrap64 ((i : Int) + 1) = ((i + 1 : Nat) : Int) := by rw [w64 (by omega) (by omega)]; omega
    have hlen : ((List.range i).map (cnt l)).length < 17592186044416 := by simp; omega
    have next : ∀ x y : Int, x = cnt l i → y = cnt l i → breaks_Counts.l0 k ((List.range i).map (cnt l) ++ [x]) y l (l.length : Int) (wrap64 ((i : Int) + 1)) = some (cntL l) := by
      intro x y hx hy
      rw [e2, hx, hy, ← rm_succ]
      exact ih (i + 1) k (by omega) (by omega) (by omega)
    clear e2
    have hc := cnt_last l i
    obtain ⟨x, hx⟩ : ∃ x, rd l (i : Int) = x := ⟨_, rfl⟩
    rw [hx] at hc
    have main : ∀ b : Bool, b = decide (x < 0 ∨ x > 11) → breaks_Counts.j1 (k + 2) ((List.range i).map (cnt l)) (last l i) x l (l.length : Int) i b = some (cntL l) := by
      intro b hb
      simp only [breaks_Counts.j1]
      cases b with
      | true =>
        have hb := of_decide_eq_true hb.symm
        rw [if_pos rfl]
        simp only [breaks_Counts.j2, if_true, if_pos hlen]
        have e : (0 : Int) = cnt l i := by rw [hc, norm, if_pos hb]
        exact next 0 0 e e
      | false =>
        have hb := of_decide_eq_false hb.symm
        rw [if_neg (by decide)]
        by_cases h1 : x = 10
        · rw [if_pos h1, open_f, Option.bind_some]
          simp only [breaks_Counts.j2, if_pos hlen, if_pos h1]
          cases ho : opB (last l i) with
          | true =>
            rw [if_pos rfl]
            have e : (0 : Int) = cnt l i := by rw [hc, norm, if_neg hb, if_pos h1, if_pos ho]
            exact next 0 0 e e
          | false =>
            rw [if_neg (by decide)]
            have e : last l i = cnt l i := by rw [hc, norm, if_neg hb, if_pos h1, ho]; rfl
            exact next _ _ e e
        · rw [if_neg h1]
          simp only [breaks_Counts.j2, if_pos hlen, if_neg h1]
          rw [if_neg (by decide)]
          have e : x = cnt l i := by rw [hc, norm, if_neg hb, if_neg h1]
          exact next _ _ e e
    simp only [breaks_Counts.l0]
    rw [if_pos (by omega), if_pos (by omega), if_pos (by omega), hx]
    by_cases h0 : x < 0
    · rw [if_pos h0]
      exact main true (decide_eq_true (Or.inl h0)).symm
    · rw [if_neg h0]
      exact main _ (by simp [h0])
theorem counts_f (l : List Int) (hl : l.length ≤ 1099511627776) (k : Nat) (hk : 3 * l.length + 1 ≤ k) : breaks_Counts.f k l = some (cntL l) :=
  counts_l0 l hl l.length 0 k (by omega) (by omega) (by omega)
/-- The last kind that is no space, at i. -/
def aft (c : List Int) : Nat → Int
  | 0 => ahdW 11 (rd c (0 : Nat))
  | i + 1 => ahdW (aft c i) (rd c ((i + 1 : Nat) : Int))
def aftB (c : List Int) : Nat → Int
  | 0 => 11
  | i + 1 => aft c i
theorem aft_B (c : List Int) (i : Nat) : aft c i = ahdW (aftB c i) (rd c (i : Int)) := by cases i <;> rfl
/-- May a line end behind i? -/
def brkC (l c : List Int) (i : Nat) : Int := if i + 1 = c.length then 2 else verd (rd c i) (rd c ((i + 1 : Nat) : Int)) (rd l ((i + 1 : Nat) : Int) == 10) (aft c i) 10 0
def brk (l : List Int) (i : Nat) : Int := brkC l (cntL l) i
def allP (l : List Int) : List Int := (List.range l.length).map (brk l)
theorem allP_len (l : List Int) : (allP l).length = l.length := by simp [allP]
theorem rd_allP (l : List Int) (i : Nat) (h : i < l.length) : rd (allP l) (i : Int) = brk l i := rdm _ _ _ h
theorem allL_eq (l c : List Int) (d : Nat) : ∀ i : Nat, i + d = c.length → allL l c d ((List.range i).map (brkC l c)) (aftB c i) i = (List.range c.length).map (brkC l c) := by
  induction d with
  | zero =>
    intro i h
    obtain rfl : i = c.length := by omega
    rfl
  | succ d ih =>
    intro i h
    simp only [allL]
    by_cases hd : d = 0
    · subst hd
      rw [if_pos rfl, ← h, rm_succ]
      congr 2
      rw [brkC, if_pos (by omega)]
    · rw [if_neg hd, ← ih (i + 1) (by omega), rm_succ, ← aft_B]
      congr 2
      rw [brkC, if_neg (by omega)]
theorem all_f (l : List Int) (hl : l.length ≤ 1099511627776) : breaks_All.f l = some (allP l) := by
  unfold breaks_All.f
  rw [if_pos hl, counts_f l hl _ (by omega), Option.bind_some, if_pos (cntL_len l)]
  have := allL_eq l (cntL l) (cntL l).length 0 (by omega)
  simp only [List.range_zero, List.map_nil, aftB] at this
  rw [this, cntL_len]
  rfl
theorem verd_all (a b : Int) (m : Bool) (h : Int) : verd a b m h 10 0 = if (m && !opB a) = true then 0 else if a = 11 then 2 else if opB b = true then 0 else if h = 9 then 1 else if b = 4 ∨ h = 3 then 0 else if a = 8 then 1 else if a = 7 ∨ b = 7 then 0 else if b = 5 ∨ b = 6 then 0 else if (woB a && woB b) = true then 0 else if a = 5 ∧ b = 1 then 0 else 1 := by
  simp [verd, ruleP, howL]
/-- The document's behind: what is the last one that is no space. -/
theorem behind_l0 (c : List Int) (hc : c.length ≤ 1099511627776) (q : Int) (hq : q ≠ 11) : ∀ (i k : Nat), i ≤ c.length → i + 1 ≤ k → frisketref06_behind.l0 k c ((i : Int) - 1) q = some (aftB c i == q)
  | 0, k, hi, hk => by
    obtain ⟨k, rfl⟩ : ∃ q, k = q + 1 := ⟨k - 1, by omega⟩
    simp only [frisketref06_behind.l0]
    rw [if_neg (by omega)]
    simp only [aftB]
    rw [beq_eq_false_iff_ne.2 (fun h => hq h.symm)]
  | i + 1, k, hi, hk => by
    obtain ⟨k, rfl⟩ : ∃ q, k = q + 1 := ⟨k - 1, by omega⟩
    have e : ((i + 1 : Nat) : Int) - 1 = (i : Int) := by omega
    simp only [frisketref06_behind.l0]
    rw [e, if_pos (by omega), if_pos (by omega), if_pos (by omega)]
    rw [show aftB c (i + 1) = ahdW (aftB c i) (rd c (i : Int)) from aft_B c i]
    unfold ahdW
    by_cases h : rd c (i : Int) = 8
    · rw [if_pos h, w64 (by omega) (by omega), behind_l0 c hc q hq i k (by omega) (by omega), h]
      rfl
    · rw [if_neg h, if_pos (bne_iff_ne.2 h)]
theorem word_f (a : Int) : frisketref06_word.f a = some (woB a) := by
  unfold frisketref06_word.f woB
  by_cases h1 : a = 0
  · simp [h1]
  · rw [if_neg h1, beq_eq_false_iff_ne.2 h1]; rfl
theorem count_f (l : List Int) (hl : l.length ≤ 1099511627776) : ∀ (i k : Nat), i < l.length → 2 * i + 2 ≤ k → frisketref06_count.f k l i = some (cnt l i)
  | i, k, hi, hk => by
    obtain ⟨k, rfl⟩ : ∃ q, k = q + 2 := ⟨k - 2, by omega⟩
    have hc := cnt_last l i
    obtain ⟨x, hx⟩ : ∃ x, rd l (i : Int) = x := ⟨_, rfl⟩
    rw [hx] at hc
    have main : ∀ b : Bool, b = decide (x < 0 ∨ x > 11) → frisketref06_count.j0 (k + 1) l i x b = some (cnt l i) := by
      intro b hb
      simp only [frisketref06_count.j0]
      cases b with
      | true =>
        have hb := of_decide_eq_true hb.symm
        rw [if_pos rfl, hc, norm, if_pos hb]
      | false =>
        have hb := of_decide_eq_false hb.symm
        rw [if_neg (by decide), hc, norm, if_neg hb]
        by_cases h1 : x = 10
        · rw [if_pos h1, if_pos h1]
          match i, hi, hk with
          | 0, _, _ => rw [if_pos (by omega)]; rfl
          | i + 1, hi, hk =>
            rw [if_neg (by omega), show wrap64 (((i + 1 : Nat) : Int) - 1) = (i : Int) by rw [w64 (by omega) (by omega)]; omega, count_f l hl i k (by omega) (by omega)]
            simp only [Option.bind_some, last, opB]
            by_cases g1 : cnt l i = 8
            · simp [g1]
            · by_cases g2 : cnt l i = 9
              · simp [g2]
              · by_cases g3 : cnt l i = 11
                · simp [g3]
                · simp [g1, g2, g3]
        · rw [if_neg h1, if_neg h1]
    simp only [frisketref06_count.f]
    rw [if_pos (by omega), if_pos (by omega), hx]
    by_cases h0 : x < 0
    · rw [if_pos h0]
      exact main true (decide_eq_true (Or.inl h0)).symm
    · rw [if_neg h0]
      exact main _ (by simp [h0])
theorem refCounts_l0 (l : List Int) (hl : l.length ≤ 1099511627776) (d : Nat) : ∀ (i k : Nat), l.length - i = d → i ≤ l.length → 2 * l.length + 2 + d + 1 ≤ k → frisketref06_Counts.l0 k l ((List.range i).map (cnt l)) i = some (cntL l) := by
  induction d with
  | zero =>
    intro i k hd hi hk
    obtain ⟨k, rfl⟩ : ∃ q, k = q + 1 := ⟨k - 1, by omega⟩
    obtain rfl : i = l.length := by omega
    simp only [frisketref06_Counts.l0]
    rw [if_neg (by omega)]
    rfl
  | succ d ih =>
    intro i k hd hi hk
    obtain ⟨k, rfl⟩ : ∃ q, k = q + 1 := ⟨k - 1, by omega⟩
    have e2 : wrap64 ((i : Int) + 1) = ((i + 1 : Nat) : Int) := by rw [w64 (by omega) (by omega)]; omega
    simp only [frisketref06_Counts.l0]
    rw [if_pos (by omega), count_f l hl i k (by omega) (by omega), Option.bind_some, if_pos (by simp; omega), e2, ← rm_succ]
    clear e2
    exact ih (i + 1) k (by omega) (by omega) (by omega)
theorem refCounts_f (l : List Int) (hl : l.length ≤ 1099511627776) (k : Nat) (hk : 3 * l.length + 3 ≤ k) : frisketref06_Counts.f k l = some (cntL l) :=
  refCounts_l0 l hl l.length 0 k (by omega) (by omega) (by omega)
end Go.Proofs.Ytbcflgiapiclgaa.Pure
