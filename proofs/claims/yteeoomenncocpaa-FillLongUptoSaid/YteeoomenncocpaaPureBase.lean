/- What fill.line answers, in plain Lean. -/
import Derived.Test.YteeoomenncocpaaP5
import Derived.Test.YteeoomenncocpaaP8
import Derived.Test.YteeoomenncocpaaP6
import Derived.Test.YteeoomenncocpaaHLines
import Derived.Test.YteeoomenncocpaaHOf
import Derived.Test.YteeoomenncocpaaOp
namespace Go.Proofs.Yteeoomenncocpaa.Pure
open Go.RowKit Go.Proofs.Yteeoomenncocpaa.P Go.Proofs.YteeoomenncocpaaW.PrintWords Go.Proofs.YteeoomenncocpaaW.PrintLast Go.Proofs.YteeoomenncocpaaW.PrintMore
set_option linter.unusedVariables false
set_option linter.unusedSimpArgs false

theorem alive17 : frisketlaw17_alive.f = some true := by decide +kernel
theorem w64 {a : Int} (h : -9223372036854775808 ≤ a) (h' : a ≤ 9223372036854775807) : wrap64 a = a := by unfold wrap64; omega
/-- Things that may be. -/
structure Ok (l0 l1 : List Int) (c : Int) : Prop where
  len : (l0.length : Int) = (l1.length : Int)
  c1 : 1 ≤ c
  c2 : c ≤ 1048576
  r : ∀ i : Int, 0 ≤ i → i < (l0.length : Int) → 1 ≤ rd l0 i
  e : ∀ i : Int, 0 ≤ i → i < (l0.length : Int) → 0 ≤ rd l1 i ∧ rd l1 i ≤ 2
theorem rd_mem (l : List Int) (i : Int) (h0 : 0 ≤ i) (h : i < (l.length : Int)) : rd l i ∈ l := by
  unfold rd
  rw [List.getD_eq_getElem?_getD, List.getElem?_eq_getElem (by omega)]
  exact List.getElem_mem _
theorem right_ok {l0 l1 : List Int} {c : Int} (h : rightF l0 l1 c = true) : Ok l0 l1 c := by
  unfold rightF at h
  simp only [Bool.and_eq_true, decide_eq_true_eq, Bool.not_eq_true', Bool.or_eq_false_iff, List.any_eq_false] at h
  obtain ⟨h1, h2, h3, h4, h5⟩ := h
  refine ⟨h1, h2, h3, fun i a b => ?_, fun i a b => ?_⟩
  · have := h4 _ (rd_mem l0 i a b)
    simp [badR] at this
    omega
  · have := h5 _ (rd_mem l1 i a (by omega))
    simp [badE] at this
    omega
theorem mn_b {x c : Int} (h : 1 ≤ x) (hc : 1 ≤ c) : 1 ≤ mn x c ∧ mn x c ≤ c ∧ mn x c ≤ x := by unfold mn; split <;> omega
/-- fill.line from its state on: where the line ends, what it comes to, is it an emergency; d: the things left. -/
def lineP (l0 l1 : List Int) (c a : Int) : Nat → Int → Int → Int → Int → Int × Int × Bool
  | 0, t, n, bt, bn => if bt > a then (bt, bn, false) else (t, n, true)
  | d + 1, t, n, bt, bn =>
    if t > a ∧ n + mn (rd l0 t) c > c then (if bt > a then (bt, bn, false) else (t, n, true))
    else if rd l1 t = 2 ∨ d = 0 then (t + 1, n + mn (rd l0 t) c, false)
    else if rd l1 t = 1 then lineP l0 l1 c a d (t + 1) (n + mn (rd l0 t) c) (t + 1) (n + mn (rd l0 t) c)
    else lineP l0 l1 c a d (t + 1) (n + mn (rd l0 t) c) bt bn
theorem line_l0 (l0 l1 : List Int) (c a : Int) (hk : Ok l0 l1 c) (ha : 0 ≤ a) (hl : l0.length ≤ 1048576) (d : Nat) : ∀ (t n bt bn : Int) (k : Nat), (l0.length : Int) - t = d → a ≤ t → (t = a → n = 0) → 0 ≤ n → n ≤ c → 3 * d + 1 ≤ k →
    fill_line.l0 k l0 l1 a c a t n true a bt bn false = some (a, (lineP l0 l1 c a d t n bt bn).1, (lineP l0 l1 c a d t n bt bn).2.1, (lineP l0 l1 c a d t n bt bn).2.2) := by
  obtain ⟨hlen, hc1, hc2, hr, he⟩ := hk
  induction d with
  | zero =>
    intro t n bt bn k hd hat hz hn hnc hkk
    obtain ⟨k, rfl⟩ : ∃ q, k = q + 1 := ⟨k - 1, by omega⟩
    simp only [fill_line.l0, lineP]
    rw [if_neg (by omega)]
    by_cases h : bt > a
    · rw [if_pos h, if_pos h]
    · rw [if_neg h, if_neg h]
  | succ d ih =>
    intro t n bt bn k hd hat hz hn hnc hkk
    obtain ⟨k, rfl⟩ : ∃ q, k = q + 3 := ⟨k - 3, by omega⟩
    have hm := mn_b (hr t (by omega) (by omega)) hc1
    have het := he t (by omega) (by omega)
    have e1 : wrap64 (n + mn (rd l0 t) c) = n + mn (rd l0 t) c := w64 (by omega) (by omega)
    have e2 : wrap64 (t + 1) = t + 1 := w64 (by omega) (by omega)
    simp only [fill_line.l0, lineP]
    rw [if_pos (show t < (l0.length : Int) by omega), if_pos (show 0 ≤ t by omega), e1]
    -- behind the first test
    have step : ¬ (t > a ∧ n + mn (rd l0 t) c > c) → fill_line.j1 (k + 2) l0 l1 a c (n + mn (rd l0 t) c) false a t n true a bt bn false = some (a, (if rd l1 t = 2 ∨ d = 0 then (t + 1, n + mn (rd l0 t) c, false)
        else if rd l1 t = 1 then lineP l0 l1 c a d (t + 1) (n + mn (rd l0 t) c) (t + 1) (n + mn (rd l0 t) c) else lineP l0 l1 c a d (t + 1) (n + mn (rd l0 t) c) bt bn)) := by
      intro hno
      have hle : n + mn (rd l0 t) c ≤ c := by
        by_cases h : t > a
        · have : ¬ n + mn (rd l0 t) c > c := fun h2 => hno ⟨h, h2⟩
          omega
        · have := hz (by omega)
          omega
      simp only [fill_line.j1, e2]
      rw [if_neg (by decide), if_pos (show 0 ≤ t by omega), if_pos (show t < (l1.length : Int) by omega)]
      have hlast : (t + 1 == (l0.length : Int)) = decide (d = 0) := by
        by_cases h : d = 0
        · simp [h]; omega
        · simp [h]; omega
      have hlast' : (t + 1 = (l0.length : Int)) = (d = 0) := by
        apply propext; omega
      by_cases h2 : rd l1 t = 2
      · rw [if_pos (show rd l1 t ≥ 1 by omega)]
        simp [fill_line.j2, h2]
      · by_cases h0 : d = 0
        · by_cases h1 : rd l1 t ≥ 1
          · rw [if_pos h1]
            simp [fill_line.j2, h2, hlast', h0]
          · rw [if_neg h1]
            simp [fill_line.j2, h2, hlast, hlast', h0]
        · by_cases h1 : rd l1 t = 1
          · rw [if_pos (show rd l1 t ≥ 1 by omega)]
            simp only [fill_line.j2]
            simp [h2, h1, hlast', h0]
            exact ih _ _ _ _ _ (by omega) (by omega) (by omega) (by omega) hle (by omega)
          · rw [if_neg (show ¬ rd l1 t ≥ 1 by omega)]
            simp only [fill_line.j2]
            simp [h2, h1, hlast, hlast', h0]
            exact ih _ _ _ _ _ (by omega) (by omega) (by omega) (by omega) hle (by omega)
    by_cases h1 : t > a
    · rw [if_pos h1]
      by_cases h2 : n + mn (rd l0 t) c > c
      · rw [decide_eq_true h2, if_pos (show t > a ∧ n + mn (rd l0 t) c > c from ⟨h1, h2⟩)]
        simp only [fill_line.j1, if_true]
        by_cases h : bt > a
        · rw [if_pos h, if_pos h]
        · rw [if_neg h, if_neg h]
      · rw [decide_eq_false h2, if_neg (show ¬ (t > a ∧ n + mn (rd l0 t) c > c) from fun h => h2 h.2)]
        exact step (fun h => h2 h.2)
    · rw [if_neg h1, if_neg (show ¬ (t > a ∧ n + mn (rd l0 t) c > c) from fun h => h1 h.1)]
      exact step (fun h => h1 h.1)
theorem line_f (l0 l1 : List Int) (c a : Int) (hk : Ok l0 l1 c) (ha : 0 ≤ a) (hal : a ≤ (l0.length : Int)) (hl : l0.length ≤ 1048576) (k : Nat) (hkk : 3 * l0.length + 1 ≤ k) :
    fill_line.f k l0 l1 a c = some (a, (lineP l0 l1 c a (l0.length - a.toNat) a 0 a 0).1, (lineP l0 l1 c a (l0.length - a.toNat) a 0 a 0).2.1, (lineP l0 l1 c a (l0.length - a.toNat) a 0 a 0).2.2) := by
  have := hk.c1
  exact line_l0 l0 l1 c a hk ha hl _ a 0 a 0 k (by omega) (by omega) (fun _ => rfl) (by omega) (by omega) (by omega)
/-- The line ends behind its begin, and not behind the last thing. -/
theorem lineP_to (l0 l1 : List Int) (c a : Int) (d : Nat) : ∀ (t n bt bn : Int), (l0.length : Int) - t = d → (t > a ∨ t = a ∧ 0 < d) → bt ≤ t →
    a < (lineP l0 l1 c a d t n bt bn).1 ∧ (lineP l0 l1 c a d t n bt bn).1 ≤ (l0.length : Int) := by
  induction d with
  | zero =>
    intro t n bt bn hd ht hb
    simp only [lineP]
    by_cases h : bt > a
    · rw [if_pos h]; simp only; omega
    · rw [if_neg h]; simp only; omega
  | succ d ih =>
    intro t n bt bn hd ht hb
    simp only [lineP]
    by_cases h1 : t > a ∧ n + mn (rd l0 t) c > c
    · rw [if_pos h1]
      by_cases h : bt > a
      · rw [if_pos h]; simp only; omega
      · rw [if_neg h]; simp only; omega
    · rw [if_neg h1]
      by_cases h2 : rd l1 t = 2 ∨ d = 0
      · rw [if_pos h2]; simp only; omega
      · rw [if_neg h2]
        by_cases h3 : rd l1 t = 1
        · rw [if_pos h3]; exact ih _ _ _ _ (by omega) (by omega) (by omega)
        · rw [if_neg h3]; exact ih _ _ _ _ (by omega) (by omega) (by omega)
/-- The line that begins at a. -/
def lineA (l0 l1 : List Int) (c a : Int) : S32 := ⟨a, (lineP l0 l1 c a (l0.length - a.toNat) a 0 a 0).1, (lineP l0 l1 c a (l0.length - a.toNat) a 0 a 0).2.1, (lineP l0 l1 c a (l0.length - a.toNat) a 0 a 0).2.2⟩
theorem lineA_to {l0 l1 : List Int} {c a : Int} (ha : 0 ≤ a) (hal : a < (l0.length : Int)) : a < (lineA l0 l1 c a).f1 ∧ (lineA l0 l1 c a).f1 ≤ (l0.length : Int) :=
  lineP_to l0 l1 c a _ a 0 a 0 (by omega) (by omega) (by omega)
theorem linesN_go {l0 l1 : List Int} {c : Int} (hk : Ok l0 l1 c) (hl : l0.length ≤ 1048576) (m : Nat) {i : Int} (hi : 0 ≤ i) (hil : i < (l0.length : Int)) :
    linesN l0 l1 c (m + 1) i = (linesN l0 l1 c m (lineA l0 l1 c i).f1).map fun q => lineA l0 l1 c i :: q := by
  simp only [linesN, if_pos hil]
  rw [line_f l0 l1 c i hk hi (by omega) hl _ (by omega)]
  simp only [Option.bind_some]
  have := (lineA_to (l0 := l0) (l1 := l1) (c := c) hi hil).1
  rw [if_pos (show i < (lineP l0 l1 c i (l0.length - i.toNat) i 0 i 0).1 from this)]
  rfl
theorem linesN_all {l0 l1 : List Int} {c : Int} (hk : Ok l0 l1 c) (hl : l0.length ≤ 1048576) : ∀ (m : Nat) (i : Int), 0 ≤ i → i ≤ (l0.length : Int) → (l0.length : Int) - i < m → ∃ q, linesN l0 l1 c m i = some q
  | 0, i, hi, h0, h => absurd h (by omega)
  | m + 1, i, hi, h0, h => by
    by_cases hil : i < (l0.length : Int)
    · have ht := lineA_to (l0 := l0) (l1 := l1) (c := c) hi hil
      obtain ⟨q, hq⟩ := linesN_all hk hl m (lineA l0 l1 c i).f1 (by omega) (by omega) (by omega)
      exact ⟨lineA l0 l1 c i :: q, by rw [linesN_go hk hl m hi hil, hq]; rfl⟩
    · exact ⟨[], by simp only [linesN, if_neg hil]⟩
theorem lines_total {l0 l1 : List Int} {c : Int} (hl : l0.length ≤ 1048576) (hl1 : l1.length ≤ 1048576) : (rightF l0 l1 c = false ∧ fill_Lines.f l0 l1 c = some ([], 1)) ∨ (Ok l0 l1 c ∧ rightF l0 l1 c = true ∧ ∃ q, linesN l0 l1 c (l0.length + 1) 0 = some q ∧ fill_Lines.f l0 l1 c = some (q, 0)) := by
  unfold fill_Lines.f
  rw [if_pos hl, if_pos hl1]
  cases h : rightF l0 l1 c with
  | false => exact .inl ⟨rfl, by simp⟩
  | true =>
    have hk := right_ok h
    obtain ⟨q, hq⟩ := linesN_all hk hl (l0.length + 1) 0 (by omega) (by omega) (by omega)
    exact .inr ⟨hk, rfl, q, hq, by simp [hq]⟩
/-- Is it small: an answer; and where it is, the lists are short. -/
theorem small_l0 (l0 l1 : List Int) (c : Int) (d : Nat) : ∀ (x : Int) (k : Nat), 0 ≤ x → 100 - x ≤ d → 2 * d + 2 ≤ k → ∃ b, frisketlaw17_small.l0 k x l0 l1 c = some b ∧ (b = true → l0.length ≤ 100 ∧ l1.length ≤ 100) := by
  have fin : ∀ (k : Nat) (x : Int), ∃ b, frisketlaw17_small.j1 (k + 1) x false l0 l1 c = some b ∧ (b = true → l0.length ≤ 100 ∧ l1.length ≤ 100) := fun k x => by
    simp only [frisketlaw17_small.j1]
    rw [if_neg (by decide)]
    by_cases h : (l0.length : Int) ≤ 100
    · rw [if_pos h]; exact ⟨_, rfl, fun e => by simp at e; omega⟩
    · rw [if_neg h]; exact ⟨false, rfl, fun e => by simp at e⟩
  induction d with
  | zero =>
    intro x k hx hd hk
    obtain ⟨k, rfl⟩ : ∃ q, k = q + 2 := ⟨k - 2, by omega⟩
    simp only [frisketlaw17_small.l0]
    rw [decide_eq_false (show ¬ x < 100 by omega)]
    by_cases h : x < (l0.length : Int)
    · rw [if_pos h]; exact fin k x
    · rw [if_neg h]; exact fin k x
  | succ d ih =>
    intro x k hx hd hk
    obtain ⟨k, rfl⟩ : ∃ q, k = q + 2 := ⟨k - 2, by omega⟩
    simp only [frisketlaw17_small.l0]
    by_cases h : x < (l0.length : Int)
    · rw [if_pos h]
      by_cases h2 : x < 100
      · rw [decide_eq_true h2]
        simp only [frisketlaw17_small.j1, if_true]
        rw [if_pos hx, if_pos h, w64 (by omega) (by omega)]
        by_cases h3 : rd l0 x > 1073741824
        · rw [if_pos h3]; exact ⟨false, rfl, fun e => by simp at e⟩
        · rw [if_neg h3]; exact ih (x + 1) k (by omega) (by omega) (by omega)
      · rw [decide_eq_false h2]; exact fin k x
    · rw [if_neg h]; exact fin k x
theorem small_some (l0 l1 : List Int) (c : Int) (k : Nat) (hk : 300 ≤ k) : ∃ b, frisketlaw17_small.f k l0 l1 c = some b ∧ (b = true → l0.length ≤ 100 ∧ l1.length ≤ 100) :=
  small_l0 l0 l1 c 100 0 k (by omega) (by omega) (by omega)
theorem rdT (x : List S32) (i : Nat) (h : i < x.length) : rd_T32 x (i : Int) = x[i] := by
  unfold rd_T32
  simp [List.getD_eq_getElem?_getD, List.getElem?_eq_getElem h]
end Go.Proofs.Yteeoomenncocpaa.Pure
