/- cluster.Of and the document's Of over lists that rise, in plain Lean. -/
import Derived.Test.YtignelhjipbnkaaP14
import Derived.Test.YtignelhjipbnkaaP24
import Derived.Test.YtignelhjipbnkaaP13
import Derived.Test.YtignelhjipbnkaaPureBreak
namespace Go.Proofs.Ytignelhjipbnkaa.Pure
open Go.RowKit Go.Proofs.Ytignelhjipbnkaa.P Go.Proofs.YtignelhjipbnkaaW.PrintWords Go.Proofs.YtignelhjipbnkaaW.PrintLast Go.Proofs.YtignelhjipbnkaaW.PrintMore
set_option linter.unusedVariables false
set_option linter.unusedSimpArgs false

/-- A list that rises. -/
def Asc (x : List Int) : Prop := ∀ i j : Nat, i < j → j < x.length → rd x (i : Int) < rd x (j : Int)
/-- r is the last place at which x is at most a, or -1. -/
structure IsOf (x : List Int) (a r : Int) : Prop where
  lo : -1 ≤ r
  hi : r < (x.length : Int)
  le : ∀ j : Nat, j < x.length → (j : Int) ≤ r → rd x (j : Int) ≤ a
  gt : ∀ j : Nat, j < x.length → r < (j : Int) → a < rd x (j : Int)
theorem isOf_uniq {x : List Int} {a r s : Int} (h : IsOf x a r) (g : IsOf x a s) : r = s := by
  have h1 := h.lo
  have h2 := h.hi
  have g1 := g.lo
  have g2 := g.hi
  by_cases c : r < s
  · have p := g.le s.toNat (by omega) (by omega)
    have q := h.gt s.toNat (by omega) (by omega)
    omega
  · by_cases c2 : s < r
    · have p := h.le r.toNat (by omega) (by omega)
      have q := g.gt r.toNat (by omega) (by omega)
      omega
    · omega
theorem less_f (a b : Int) : cmp_Less_int.f a b = some (decide (a < b)) := by
  unfold cmp_Less_int.f cmp_isNaN_int.f
  simp
theorem bin_l0 (x : List Int) (hx : x.length ≤ 1099511627776) (hA : Asc x) (a : Int) (d : Nat) : ∀ (i j k : Nat), j - i ≤ d → i ≤ j → j ≤ x.length → (∀ m : Nat, m < i → rd x (m : Int) < a) → (∀ m : Nat, j ≤ m → m < x.length → a ≤ rd x (m : Int)) → d + 1 ≤ k →
    ∃ (r : Nat) (b : Bool), slices_BinarySearch_int_int.l0 k x a (x.length : Int) i j = some ((r : Int), b) ∧ r ≤ x.length ∧ (∀ m : Nat, m < r → rd x (m : Int) < a) ∧ (∀ m : Nat, r ≤ m → m < x.length → a ≤ rd x (m : Int)) ∧ b = decide (r < x.length ∧ rd x (r : Int) = a) := by
  have fin : ∀ (i j k : Nat), i = j → j ≤ x.length → (∀ m : Nat, m < i → rd x (m : Int) < a) → (∀ m : Nat, j ≤ m → m < x.length → a ≤ rd x (m : Int)) → ∃ (r : Nat) (b : Bool), slices_BinarySearch_int_int.l0 (k + 1) x a (x.length : Int) i j = some ((r : Int), b) ∧ r ≤ x.length ∧ (∀ m : Nat, m < r → rd x (m : Int) < a) ∧ (∀ m : Nat, r ≤ m → m < x.length → a ≤ rd x (m : Int)) ∧ b = decide (r < x.length ∧ rd x (r : Int) = a) := by
    intro i j k hij hj h1 h2
    subst hij
    refine ⟨i, _, ?_, hj, h1, h2, rfl⟩
    simp only [slices_BinarySearch_int_int.l0]
    rw [if_neg (by omega)]
    by_cases c : i < x.length
    · rw [if_pos (by omega), if_pos (by omega), if_pos (by omega)]
      by_cases e : rd x (i : Int) = a
      · rw [if_pos e, decide_eq_true ⟨c, e⟩]
      · rw [if_neg e, decide_eq_false (fun h => e h.2)]
        simp [slices_isNaN_int.f]
    · rw [if_neg (by omega), decide_eq_false (fun h => c h.1)]
  induction d with
  | zero =>
    intro i j k hd hij hj h1 h2 hk
    obtain ⟨k, rfl⟩ : ∃ q, k = q + 1 := ⟨k - 1, by omega⟩
    exact fin i j k (by omega) hj h1 h2
  | succ d ih =>
    intro i j k hd hij hj h1 h2 hk
    obtain ⟨k, rfl⟩ : ∃ q, k = q + 1 := ⟨k - 1, by omega⟩
    by_cases c : i < j
    · obtain ⟨h, hh⟩ : ∃ h : Nat, (i + j) / 2 = h := ⟨_, rfl⟩
      have e1 : wrap64 ((IntKind.u64.wrap (wrap64 ((i : Int) + (j : Int)))) / 2) = (h : Int) := by
        have e0 : wrap64 ((i : Int) + (j : Int)) = ((i + j : Nat) : Int) := (w64 (by omega) (by omega)).trans (by omega)
        have e2 : IntKind.u64.wrap ((i + j : Nat) : Int) = ((i + j : Nat) : Int) := by simp [IntKind.wrap, IntKind.bits, IntKind.signed]; omega
        rw [e0, e2, w64 (by omega) (by omega)]
        omega
      have e3 : wrap64 ((h : Int) + 1) = ((h + 1 : Nat) : Int) := (w64 (by omega) (by omega)).trans (by omega)
      simp only [slices_BinarySearch_int_int.l0]
      rw [if_pos (show (i : Int) < (j : Int) by omega), e1, e3, less_f]
      clear e1 e3
      rw [if_pos (by omega), if_pos (by omega), Option.bind_some]
      by_cases c2 : rd x (h : Int) < a
      · rw [decide_eq_true c2, if_pos rfl]
        refine ih (h + 1) j k (by omega) (by omega) hj (fun m hm => ?_) h2 (by omega)
        by_cases e : m = h
        · rw [e]; exact c2
        · have := hA m h (by omega) (by omega)
          omega
      · rw [decide_eq_false c2, if_neg (by decide)]
        refine ih i h k (by omega) (by omega) (by omega) h1 (fun m hm hml => ?_) (by omega)
        by_cases e : m = h
        · rw [e]; omega
        · have := hA h m (by omega) hml
          omega
    · exact fin i j k (by omega) hj h1 h2
theorem of_f (x : List Int) (hx : x.length ≤ 1099511627776) (hA : Asc x) (a : Int) (ha : 0 ≤ a) (k : Nat) (hk : x.length + 1 ≤ k) : ∃ r, cluster_Of.f k x a = some r ∧ IsOf x a r := by
  obtain ⟨r, b, h1, h2, h3, h4, h5⟩ := bin_l0 x hx hA a x.length 0 x.length k (by omega) (by omega) (Nat.le_refl _) (fun m hm => by omega) (fun m h1 h2 => by omega) hk
  unfold cluster_Of.f slices_BinarySearch_int_int.f
  rw [if_neg (by omega)]
  simp only [Int.natCast_zero, Int.ofNat_zero] at h1
  rw [h1, Option.bind_some]
  cases b with
  | true =>
    obtain ⟨g1, g2⟩ := of_decide_eq_true h5.symm
    refine ⟨(r : Int), by rw [if_pos rfl], by omega, by omega, fun j hj hjr => ?_, fun j hj hjr => ?_⟩
    · by_cases e : j = r
      · rw [e]; omega
      · have := h3 j (by omega); omega
    · have := hA r j (by omega) hj
      omega
  | false =>
    have g := of_decide_eq_false h5.symm
    refine ⟨(r : Int) - 1, by simp only [Bool.false_eq_true, if_false]; rw [w64 (by omega) (by omega)], by omega, by omega, fun j hj hjr => ?_, fun j hj hjr => ?_⟩
    · have := h3 j (by omega); omega
    · have h6 := h4 j (by omega) hj
      by_cases e : j = r
      · subst e
        have : rd x (j : Int) ≠ a := fun e2 => g ⟨hj, e2⟩
        omega
      · have := hA r j (by omega) hj
        have := h4 r (Nat.le_refl _) (by omega)
        omega
theorem refOf_l0 (x : List Int) (hx : x.length ≤ 1099511627776) (hA : Asc x) (a : Int) (ha : 0 ≤ a) (d : Nat) : ∀ (j k : Nat) (n : Int), x.length - j = d → j ≤ x.length → -1 ≤ n → n < (j : Int) → (∀ m : Nat, m < j → (m : Int) ≤ n → rd x (m : Int) ≤ a) → (∀ m : Nat, m < j → n < (m : Int) → a < rd x (m : Int)) → 2 * d + 2 ≤ k →
    ∃ r, frisketref05_Of.l0 k x a n j = some r ∧ IsOf x a r := by
  induction d with
  | zero =>
    intro j k n hd hj h1 h2 h3 h4 hk
    obtain ⟨k, rfl⟩ : ∃ q, k = q + 2 := ⟨k - 2, by omega⟩
    obtain rfl : j = x.length := by omega
    refine ⟨n, ?_, h1, h2, h3, h4⟩
    simp only [frisketref05_Of.l0]
    rw [if_neg (by omega)]
    simp [frisketref05_Of.j1]
  | succ d ih =>
    intro j k n hd hj h1 h2 h3 h4 hk
    obtain ⟨k, rfl⟩ : ∃ q, k = q + 2 := ⟨k - 2, by omega⟩
    have e2 : wrap64 ((j : Int) + 1) = ((j + 1 : Nat) : Int) := (w64 (by omega) (by omega)).trans (by omega)
    simp only [frisketref05_Of.l0]
    rw [if_pos (by omega), decide_eq_true (show a ≥ 0 from ha)]
    simp only [frisketref05_Of.j1, if_true]
    rw [if_pos (by omega), if_pos (by omega), e2]
    by_cases c : rd x (j : Int) ≤ a
    · rw [if_pos c]
      refine ih (j + 1) k (j : Int) (by omega) (by omega) (by omega) (by omega) (fun m hm hmn => ?_) (fun m hm hmn => by omega) (by omega)
      by_cases e : m = j
      · rw [e]; exact c
      · have := hA m j (by omega) (by omega); omega
    · rw [if_neg c]
      refine ih (j + 1) k n (by omega) (by omega) h1 (by omega) (fun m hm hmn => h3 m (by omega) hmn) (fun m hm hmn => ?_) (by omega)
      by_cases e : m = j
      · rw [e]; omega
      · exact h4 m (by omega) hmn
theorem refOf_f (x : List Int) (hx : x.length ≤ 1099511627776) (hA : Asc x) (a : Int) (ha : 0 ≤ a) (k : Nat) (hk : 2 * x.length + 2 ≤ k) : ∃ r, frisketref05_Of.f k x a = some r ∧ IsOf x a r := by
  have := refOf_l0 x hx hA a ha x.length 0 k (-1) (by omega) (by omega) (by omega) (by omega) (fun m hm => by omega) (fun m hm => by omega) hk
  simpa [frisketref05_Of.f] using this
theorem of_low (x : List Int) (a : Int) (ha : a < 0) (k : Nat) : cluster_Of.f k x a = some (-1) := by unfold cluster_Of.f; rw [if_pos ha]
theorem refOf_low (x : List Int) (a : Int) (ha : a < 0) (k : Nat) : frisketref05_Of.f (k + 2) x a = some (-1) := by
  unfold frisketref05_Of.f
  simp only [frisketref05_Of.l0]
  rw [decide_eq_false (show ¬ a ≥ 0 by omega)]
  split <;> simp [frisketref05_Of.j1]
theorem of_nil (a : Int) (k : Nat) : cluster_Of.f (k + 2) [] a = some (-1) := by
  by_cases h : a < 0
  · exact of_low _ _ h _
  · obtain ⟨r, h1, h2⟩ := of_f [] (by simp) (fun i j _ hj => absurd hj (by simp)) a (by omega) (k + 2) (by simp)
    have := h2.lo
    have := h2.hi
    simp only [List.length_nil] at this
    rw [h1]
    congr 1
    omega
theorem rd_snoc_lt (l : List Int) (x : Int) (j : Nat) (h : j < l.length) : rd (l ++ [x]) (j : Int) = rd l (j : Int) := by
  unfold rd
  rw [Int.toNat_natCast, List.getD_eq_getElem?_getD, List.getD_eq_getElem?_getD, List.getElem?_append_left h]
theorem rd_snoc (l : List Int) (x : Int) : rd (l ++ [x]) (l.length : Int) = x := by
  unfold rd
  rw [Int.toNat_natCast, List.getD_eq_getElem?_getD, List.getElem?_append_right (Nat.le_refl _)]
  simp
theorem asc_snoc (x : List Int) (v : Int) (hA : Asc x) (h : ∀ j : Nat, j < x.length → rd x (j : Int) < v) : Asc (x ++ [v]) := by
  intro i j hij hj
  simp only [List.length_append, List.length_cons, List.length_nil] at hj
  rw [rd_snoc_lt x v i (by omega)]
  by_cases e : j = x.length
  · subst e; rw [rd_snoc]; exact h i hij
  · rw [rd_snoc_lt x v j (by omega)]; exact hA i j hij (by omega)
end Go.Proofs.Ytignelhjipbnkaa.Pure
