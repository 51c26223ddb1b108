/- What cluster.Starts answers, and the document's Break, in plain Lean. -/
import Derived.Test.YtignelhjipbnkaaP4
import Derived.Test.YtignelhjipbnkaaP9
import Derived.Test.YtignelhjipbnkaaP21
import Derived.Test.YtignelhjipbnkaaP22
import Derived.Test.YtignelhjipbnkaaP6
import Derived.Test.YtignelhjipbnkaaP15
import Derived.Test.YtignelhjipbnkaaHStarts
import Derived.Test.YtignelhjipbnkaaOp
namespace Go.Proofs.Ytignelhjipbnkaa.Pure
open Go.RowKit Go.Proofs.Ytignelhjipbnkaa.P Go.Proofs.YtignelhjipbnkaaW.PrintWords Go.Proofs.YtignelhjipbnkaaW.PrintLast Go.Proofs.YtignelhjipbnkaaW.PrintMore
set_option linter.unusedVariables false
set_option linter.unusedSimpArgs false

theorem w64 {a : Int} (h : -9223372036854775808 ≤ a) (h' : a ≤ 9223372036854775807) : wrap64 a = a := by unfold wrap64; omega
theorem rd_at (l : List Int) (i : Nat) (h : i < l.length) : rd l (i : Int) = l[i] := by
  unfold rd
  simp [List.getD_eq_getElem?_getD, List.getElem?_eq_getElem h]
/-- A list of whole numbers is like itself. -/
theorem ints_l0 (a : List Int) (ha : a.length ≤ 1099511627776) (d : Nat) : ∀ (j k : Nat), a.length - j = d → d + 1 ≤ k → frisketref01_Ints.l0 k a a j = some true := by
  induction d with
  | zero =>
    intro j k hd hk
    obtain ⟨k, rfl⟩ : ∃ q, k = q + 1 := ⟨k - 1, by omega⟩
    simp only [frisketref01_Ints.l0]
    rw [if_neg (by omega)]
  | succ d ih =>
    intro j k hd hk
    obtain ⟨k, rfl⟩ : ∃ q, k = q + 1 := ⟨k - 1, by omega⟩
    have e2 : wrap64 ((j : Int) + 1) = ((j + 1 : Nat) : Int) := by rw [w64 (by omega) (by omega)]; omega
    simp only [frisketref01_Ints.l0]
    rw [if_pos (by omega), if_pos (by omega), if_pos (by omega), if_pos trivial, e2]
    exact ih (j + 1) k (by omega) (by omega)
theorem ints_eq (a b : List Int) (h : a = b) (ha : a.length ≤ 1099511627776) (k : Nat) (hk : a.length + 1 ≤ k) : frisketref01_Ints.f k a b = some true := by
  subst h
  unfold frisketref01_Ints.f
  rw [if_pos rfl]
  exact ints_l0 a ha a.length 0 k (by omega) hk
theorem alive05 (k : Nat) (hk : 60 ≤ k) : frisketlaw05_alive.f k = some true := by
  have h : frisketlaw05_alive.f 60 = some true := by decide +kernel
  exact at_rounds (g := fun k => frisketlaw05_alive.f k) (fun k => frisketlaw05_alive.mono k) hk h
def endB (a : Int) : Bool := a == 1 || (a == 2 || a == 3)
def sylB (a b : Int) : Bool := (a == 9 && (b == 9 || (b == 10 || (b == 12 || b == 13)))) || (((a == 12 || a == 10) && (b == 10 || b == 11)) || ((a == 13 || a == 11) && b == 11))
/-- Is there a break between a and b: the pictures and regionals ahead are told. -/
def brkS (a : Int) (p o : Bool) (b : Int) : Bool :=
  if a = 1 ∧ b = 2 then false else if (endB a || endB b) = true then true else if (sylB a b || a == 7) = true then false else if b = 4 ∨ b = 5 ∨ b = 8 then false else if a = 5 ∧ b = 14 then !p else if a = 6 ∧ b = 6 then !o else true
theorem ends_f (a : Int) : cluster_ends.f a = some (endB a) := by
  unfold cluster_ends.f endB
  by_cases h1 : a = 1
  · simp [h1]
  · by_cases h2 : a = 2
    · simp [h2]
    · rw [if_neg h1, if_neg h2, beq_eq_false_iff_ne.2 h1, beq_eq_false_iff_ne.2 h2]; rfl
theorem refEnds_f (a : Int) : frisketref05_ends.f a = some (endB a) := by
  unfold frisketref05_ends.f endB
  by_cases h1 : a = 1
  · simp [h1]
  · by_cases h2 : a = 2
    · simp [h2]
    · rw [if_neg h1, if_neg h2, beq_eq_false_iff_ne.2 h1, beq_eq_false_iff_ne.2 h2]; rfl
theorem syl_f (k : Nat) (a b : Int) : cluster_syllable.f (k + 1) a b = some (sylB a b) := by
  unfold cluster_syllable.f sylB
  by_cases h9 : a = 9
  · subst h9
    rw [if_pos rfl]
    by_cases b1 : b = 9
    · simp [b1]
    · by_cases b2 : b = 10
      · simp [b2]
      · by_cases b3 : b = 12
        · simp [b3]
        · rw [if_neg b1, if_neg b2, if_neg b3, beq_eq_false_iff_ne.2 b1, beq_eq_false_iff_ne.2 b2, beq_eq_false_iff_ne.2 b3]; cases (b == 13) <;> rfl
  · rw [if_neg h9]
    by_cases h12 : a = 12
    · subst h12
      rw [if_pos rfl]
      simp only [cluster_syllable.j0]
      by_cases b2 : b = 10 <;> simp [b2]
    · rw [if_neg h12]
      simp only [cluster_syllable.j0]
      by_cases h10 : a = 10
      · subst h10
        by_cases b2 : b = 10 <;> simp [b2]
      · by_cases h13 : a = 13
        · subst h13; simp
        · by_cases h11 : a = 11
          · subst h11; simp
          · simp [h9, h12, h10, h13, h11]
theorem brk_j4 (k : Nat) (a b c : Int) (x p o : Bool) : cluster_state_breaks.j4 (k + 1) b a x c p o = some (if x = true then !p else if a = 6 ∧ b = 6 then !o else true) := by
  simp only [cluster_state_breaks.j4]
  cases x with
  | true => rfl
  | false =>
    simp only [Bool.false_eq_true, if_false]
    by_cases h1 : a = 6
    · by_cases h2 : b = 6
      · rw [if_pos h1, if_pos h2, if_pos ⟨h1, h2⟩]
      · rw [if_pos h1, if_neg h2, if_neg (fun h => h2 h.2)]
    · rw [if_neg h1, if_neg (fun h => h1 h.1)]
theorem brk_j3 (k : Nat) (a b c : Int) (x p o : Bool) : cluster_state_breaks.j3 (k + 2) b a x c p o = some (if x = true then false else if a = 5 ∧ b = 14 then !p else if a = 6 ∧ b = 6 then !o else true) := by
  simp only [cluster_state_breaks.j3]
  cases x with
  | true => rfl
  | false =>
    simp only [Bool.false_eq_true, if_false]
    by_cases h1 : a = 5
    · rw [if_pos h1, brk_j4]
      by_cases h2 : b = 14
      · subst h2
        simp [h1]
      · rw [beq_eq_false_iff_ne.2 h2, if_neg (show ¬ (false = true) by decide), if_neg (show ¬ (a = 5 ∧ b = 14) from fun h => h2 h.2)]
    · rw [if_neg h1, brk_j4, if_neg (show ¬ (false = true) by decide), if_neg (show ¬ (a = 5 ∧ b = 14) from fun h => h1 h.1)]
theorem brk_j2 (k : Nat) (a b c : Int) (x p o : Bool) : cluster_state_breaks.j2 (k + 3) b a x c p o = some (if x = true then false else if b = 4 ∨ b = 5 ∨ b = 8 then false else if a = 5 ∧ b = 14 then !p else if a = 6 ∧ b = 6 then !o else true) := by
  simp only [cluster_state_breaks.j2]
  cases x with
  | true => rfl
  | false =>
    simp only [Bool.false_eq_true, if_false]
    by_cases h1 : b = 4
    · rw [if_pos h1, brk_j3, if_pos rfl, if_pos (Or.inl h1)]
    · rw [if_neg h1]
      by_cases h2 : b = 5
      · rw [if_pos h2, brk_j3, if_pos rfl, if_pos (Or.inr (Or.inl h2))]
      · rw [if_neg h2, brk_j3]
        by_cases h3 : b = 8
        · subst h3
          simp
        · rw [beq_eq_false_iff_ne.2 h3, if_neg (by decide), if_neg (show ¬ (b = 4 ∨ b = 5 ∨ b = 8) by omega)]
theorem brk_j1 (k : Nat) (a b c : Int) (x p o : Bool) : cluster_state_breaks.j1 (k + 4) b a x c p o = some (if x = true then true else if (sylB a b || a == 7) = true then false else if b = 4 ∨ b = 5 ∨ b = 8 then false else if a = 5 ∧ b = 14 then !p else if a = 6 ∧ b = 6 then !o else true) := by
  simp only [cluster_state_breaks.j1]
  cases x with
  | true => rfl
  | false =>
    simp only [Bool.false_eq_true, if_false]
    rw [syl_f, Option.bind_some]
    cases sylB a b with
    | true => rw [if_pos rfl, brk_j2]; rfl
    | false => simp only [Bool.false_eq_true, if_false, Bool.false_or]; rw [brk_j2]
theorem brk_f (k : Nat) (a : Int) (p o : Bool) (b : Int) : cluster_state_breaks.f (k + 5) a p o b = some (brkS a p o b) := by
  have j0 : ∀ x : Bool, cluster_state_breaks.j0 (k + 5) b a x a p o = some (if x = true then false else if (endB a || endB b) = true then true else if (sylB a b || a == 7) = true then false else if b = 4 ∨ b = 5 ∨ b = 8 then false else if a = 5 ∧ b = 14 then !p else if a = 6 ∧ b = 6 then !o else true) := by
    intro x
    simp only [cluster_state_breaks.j0]
    cases x with
    | true => rfl
    | false =>
      simp only [Bool.false_eq_true, if_false]
      rw [ends_f, Option.bind_some]
      cases endB a with
      | true => rw [if_pos rfl, brk_j1]; rfl
      | false => simp only [Bool.false_eq_true, if_false, Bool.false_or]; rw [ends_f, Option.bind_some, brk_j1]
  unfold cluster_state_breaks.f brkS
  by_cases h1 : a = 1
  · rw [if_pos h1, j0]
    by_cases h2 : b = 2
    · subst h2
      simp [h1]
    · rw [beq_eq_false_iff_ne.2 h2, if_neg (show ¬ (false = true) by decide), if_neg (show ¬ (a = 1 ∧ b = 2) from fun h => h2 h.2)]
  · rw [if_neg h1, j0, if_neg (show ¬ (false = true) by decide), if_neg (show ¬ (a = 1 ∧ b = 2) from fun h => h1 h.1)]
/-- The state behind b. -/
theorem then_eq (s : Int × Bool × Bool) (b : Int) : thenF s b = (b, (b == 14) || (s.2.1 && ((s.1 == 4 || s.1 == 14) && (b == 4 || b == 5))), (b == 6) && !((s.1 == 6) && s.2.2)) := by
  obtain ⟨a, p, o⟩ := s
  unfold thenF cluster_state_then.f
  cases p <;> simp only [Bool.false_eq_true, if_false, if_true]
  all_goals
    by_cases a4 : a = 4
    · subst a4
      by_cases b4 : b = 4
      · subst b4; simp
      · by_cases b14 : b = 14
        · subst b14; simp
        · by_cases b6 : b = 6
          · subst b6; simp
          · simp [b4, b14, b6, beq_eq_false_iff_ne.2 b4, beq_eq_false_iff_ne.2 b14, beq_eq_false_iff_ne.2 b6]
    · by_cases a14 : a = 14
      · subst a14
        by_cases b4 : b = 4
        · subst b4; simp
        · by_cases b14 : b = 14
          · subst b14; simp
          · by_cases b6 : b = 6
            · subst b6; simp
            · simp [b4, b14, b6, beq_eq_false_iff_ne.2 b4, beq_eq_false_iff_ne.2 b14, beq_eq_false_iff_ne.2 b6]
      · by_cases a6 : a = 6
        · subst a6
          by_cases b14 : b = 14
          · subst b14; simp
          · by_cases b6 : b = 6
            · subst b6; simp
            · simp [b14, b6]
        · by_cases b14 : b = 14
          · subst b14; simp [a4, a14, a6]
          · by_cases b6 : b = 6
            · subst b6; simp [a4, a14, a6]
            · simp [a4, a14, a6, b14, b6]
/-- The state ahead of i. -/
def sS (l : List Int) : Nat → Int × Bool × Bool
  | 0 => (3, false, false)
  | i + 1 => thenF (sS l i) (rd l (i : Int))
def brB (l : List Int) (i : Nat) : Bool := brkS (sS l i).1 (sS l i).2.1 (sS l i).2.2 (rd l (i : Int))
/-- Where clusters begin, from i on, d scalars being left. -/
def stL (l : List Int) : Nat → Nat → List Int
  | 0, _ => []
  | d + 1, i => if brB l i = true then (i : Int) :: stL l d (i + 1) else stL l d (i + 1)
theorem startsN_eq (l : List Int) : ∀ (d i : Nat), startsN l d i (sS l i) = some (stL l d i)
  | 0, i => rfl
  | d + 1, i => by
    simp only [startsN, stL]
    have e := brk_f 35 (sS l i).1 (sS l i).2.1 (sS l i).2.2 (rd l (i : Int))
    rw [show (35 + 5 : Nat) = 40 from rfl] at e
    rw [e, Option.bind_some, show thenF (sS l i) (rd l (i : Int)) = sS l (i + 1) from rfl, startsN_eq l d (i + 1)]
    simp only [Option.map_some]
    rfl
def stP (l : List Int) : List Int := stL l l.length 0
theorem starts_f (l : List Int) (hl : l.length ≤ 1099511627776) : cluster_Starts.f l = some (stP l) := by
  unfold cluster_Starts.f
  rw [if_pos hl]
  exact startsN_eq l l.length 0
theorem stL_len (l : List Int) : ∀ (d i : Nat), (stL l d i).length ≤ d
  | 0, i => by simp [stL]
  | d + 1, i => by
    have := stL_len l d (i + 1)
    simp only [stL]
    split
    · simp; omega
    · omega
theorem sS_last (l : List Int) (i : Nat) : (sS l (i + 1)).1 = rd l (i : Int) := by rw [sS, then_eq]
/-- The document's search for a picture. -/
theorem pic_l0 (l : List Int) (hl : l.length ≤ 1099511627776) (at_ : Nat) (ha : at_ < l.length) (hz : rd l (at_ : Int) = 5) : ∀ (i k : Nat), i ≤ at_ → i + 1 ≤ k → frisketref05_picture.l0 k l (at_ : Int) ((i : Int) - 1) = some ((sS l i).2.1 && ((sS l i).1 == 4 || (sS l i).1 == 14))
  | 0, k, hi, hk => by
    obtain ⟨k, rfl⟩ : ∃ q, k = q + 1 := ⟨k - 1, by omega⟩
    simp only [frisketref05_picture.l0]
    rw [if_neg (by omega), if_pos (by omega), if_pos (by omega), if_pos hz]
    rfl
  | i + 1, k, hi, hk => by
    obtain ⟨k, rfl⟩ : ∃ q, k = q + 1 := ⟨k - 1, by omega⟩
    have e : ((i + 1 : Nat) : Int) - 1 = (i : Int) := by omega
    have ew : wrap64 ((i : Int) - 1) = (i : Int) - 1 := w64 (by omega) (by omega)
    simp only [frisketref05_picture.l0]
    rw [e, if_pos (by omega), if_pos (by omega), if_pos (by omega), ew]
    clear ew
    rw [show sS l (i + 1) = thenF (sS l i) (rd l (i : Int)) from rfl, then_eq]
    by_cases h4 : rd l (i : Int) = 4
    · rw [if_pos h4, pic_l0 l hl at_ ha hz i k (by omega) (by omega), h4]
      cases (sS l i).2.1 <;> cases ((sS l i).1 == 4 || (sS l i).1 == 14) <;> rfl
    · rw [if_neg h4, if_pos (by omega), if_pos (by omega), if_pos hz]
      by_cases h14 : rd l (i : Int) = 14
      · rw [h14]; rfl
      · rw [beq_eq_false_iff_ne.2 h14, beq_eq_false_iff_ne.2 h4]
        cases (sS l i).2.1 <;> cases ((sS l i).1 == 4 || (sS l i).1 == 14) <;> cases (rd l (i : Int) == 5) <;> rfl
/-- The document's picture where no ZWJ stands: it says no. -/
theorem pic_no (l : List Int) (hl : l.length ≤ 1099511627776) (at_ : Nat) (ha : at_ < l.length) (hz : rd l (at_ : Int) ≠ 5) : ∀ (i k : Nat), i ≤ at_ → i + 1 ≤ k → frisketref05_picture.l0 k l (at_ : Int) ((i : Int) - 1) = some false
  | 0, k, hi, hk => by
    obtain ⟨k, rfl⟩ : ∃ q, k = q + 1 := ⟨k - 1, by omega⟩
    simp only [frisketref05_picture.l0]
    rw [if_neg (by omega), if_pos (by omega), if_pos (by omega), if_neg hz]
  | i + 1, k, hi, hk => by
    obtain ⟨k, rfl⟩ : ∃ q, k = q + 1 := ⟨k - 1, by omega⟩
    have e : ((i + 1 : Nat) : Int) - 1 = (i : Int) := by omega
    have ew : wrap64 ((i : Int) - 1) = (i : Int) - 1 := w64 (by omega) (by omega)
    simp only [frisketref05_picture.l0]
    rw [e, if_pos (by omega), if_pos (by omega), if_pos (by omega), ew]
    clear ew
    by_cases h4 : rd l (i : Int) = 4
    · rw [if_pos h4, pic_no l hl at_ ha hz i k (by omega) (by omega)]
    · rw [if_neg h4, if_pos (by omega), if_pos (by omega), if_neg hz]
/-- The document's count of regionals. -/
theorem odd_l0 (l : List Int) (hl : l.length ≤ 1099511627776) : ∀ (i k n : Nat), i ≤ l.length → i + 1 ≤ k → n + i ≤ l.length → frisketref05_odd.l0 k l (n : Int) ((i : Int) - 1) = some (xor (decide (n % 2 = 1)) ((sS l i).2.2))
  | 0, k, n, hi, hk, hn => by
    obtain ⟨k, rfl⟩ : ∃ q, k = q + 1 := ⟨k - 1, by omega⟩
    simp only [frisketref05_odd.l0]
    rw [if_neg (by omega)]
    have e : Int.tmod (n : Int) 2 = ((n % 2 : Nat) : Int) := by rw [Int.tmod_eq_emod_of_nonneg (by omega)]; omega
    rw [e]
    simp only [sS, Bool.xor_false]
    congr 1
    rw [Bool.eq_iff_iff]
    simp
    omega
  | i + 1, k, n, hi, hk, hn => by
    obtain ⟨k, rfl⟩ : ∃ q, k = q + 1 := ⟨k - 1, by omega⟩
    have e : ((i + 1 : Nat) : Int) - 1 = (i : Int) := by omega
    have ew : wrap64 ((i : Int) - 1) = (i : Int) - 1 := w64 (by omega) (by omega)
    have ew2 : wrap64 ((n : Int) + 1) = ((n + 1 : Nat) : Int) := (w64 (by omega) (by omega)).trans (by omega)
    simp only [frisketref05_odd.l0]
    rw [e, if_pos (by omega), if_pos (by omega), if_pos (by omega), ew, ew2]
    clear ew ew2
    rw [show sS l (i + 1) = thenF (sS l i) (rd l (i : Int)) from rfl, then_eq]
    by_cases h6 : rd l (i : Int) = 6
    · rw [if_pos h6, odd_l0 l hl i k (n + 1) (by omega) (by omega) (by omega), h6]
      congr 1
      have hp : decide ((n + 1) % 2 = 1) = !decide (n % 2 = 1) := by rw [Bool.eq_iff_iff]; simp; omega
      have hl2 : (sS l i).2.2 = (((sS l i).1 == 6) && (sS l i).2.2) := by
        cases i with
        | zero => rfl
        | succ i =>
          rw [show sS l (i + 1) = thenF (sS l i) (rd l (i : Int)) from rfl, then_eq]
          cases (rd l (i : Int) == 6) <;> rfl
      rw [hp, ← hl2]
      cases (sS l i).2.2 <;> cases decide (n % 2 = 1) <;> rfl
    · rw [if_neg h6, beq_eq_false_iff_ne.2 h6]
      have e : Int.tmod (n : Int) 2 = ((n % 2 : Nat) : Int) := by rw [Int.tmod_eq_emod_of_nonneg (by omega)]; omega
      rw [e]
      simp only [Bool.false_and, Bool.xor_false]
      congr 1
      rw [Bool.eq_iff_iff]
      simp
      omega
theorem in_l0 (x : Int) (l : List Int) (hl : l.length ≤ 1000) (d : Nat) : ∀ (i k : Nat), l.length - i = d → d + 1 ≤ k → frisketref05_in.l0 k x l i = some ((l.drop i).any (· == x)) := by
  induction d with
  | zero =>
    intro i k hd hk
    obtain ⟨k, rfl⟩ : ∃ q, k = q + 1 := ⟨k - 1, by omega⟩
    simp only [frisketref05_in.l0]
    rw [if_neg (by omega), List.drop_eq_nil_of_le (by omega)]
    rfl
  | succ d ih =>
    intro i k hd hk
    obtain ⟨k, rfl⟩ : ∃ q, k = q + 1 := ⟨k - 1, by omega⟩
    have e2 : wrap64 ((i : Int) + 1) = ((i + 1 : Nat) : Int) := by rw [w64 (by omega) (by omega)]; omega
    simp only [frisketref05_in.l0]
    rw [if_pos (by omega), if_pos (by omega), e2, ih (i + 1) k (by omega) (by omega), rd_at l i (by omega), List.drop_eq_getElem_cons (show i < l.length by omega), List.any_cons]
    by_cases h : l[i] = x
    · rw [if_pos h, h]; simp
    · rw [if_neg h, beq_eq_false_iff_ne.2 h, Bool.false_or]
theorem hangul_f (k : Nat) (a b : Int) (hk : 10 ≤ k) : frisketref05_hangul.f k a b = some (sylB a b) := by
  have hin : frisketref05_in.f k b [9, 10, 12, 13] = some (b == 9 || (b == 10 || (b == 12 || b == 13))) := by
    unfold frisketref05_in.f
    have := in_l0 b [9, 10, 12, 13] (by decide) 4 0 k rfl (by omega)
    simp only [Int.natCast_zero, Int.ofNat_zero, List.drop_zero] at this
    refine this.trans ?_
    simp only [List.any_cons, List.any_nil, Bool.or_false]
    congr 1
    rw [Bool.eq_iff_iff]
    simp only [Bool.or_eq_true, beq_iff_eq]
    omega
  unfold frisketref05_hangul.f sylB
  rw [hin]
  simp only [Option.bind_some]
  by_cases h9 : a = 9
  · subst h9
    by_cases b1 : b = 9
    · simp [b1]
    · by_cases b2 : b = 10
      · simp [b2]
      · by_cases b3 : b = 12
        · simp [b3]
        · simp [b1, b2, b3]
          by_cases b4 : b = 13 <;> simp [b1, b2, b3, b4]
  · by_cases h12 : a = 12
    · subst h12
      by_cases b2 : b = 10
      · simp [b2]
      · by_cases b3 : b = 11 <;> simp [b2, b3]
    · by_cases h10 : a = 10
      · subst h10
        by_cases b2 : b = 10
        · simp [b2]
        · by_cases b3 : b = 11 <;> simp [b2, b3]
      · by_cases h13 : a = 13
        · subst h13; simp
        · by_cases h11 : a = 11
          · subst h11; simp
          · simp [h9, h12, h10, h13, h11]
end Go.Proofs.Ytignelhjipbnkaa.Pure
