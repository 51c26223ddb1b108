/- The document's order, and where each place is. -/
import Derived.Test.YtbkgggcpkiddmaaP13
import Derived.Test.YtbkgggcpkiddmaaP14
import Derived.Test.YtbkgggcpkiddmaaP15
import Derived.Test.YtbkgggcpkiddmaaP8
import Derived.Test.YtbkgggcpkiddmaaP4
import Derived.Test.YtbkgggcpkiddmaaP9
import Derived.Test.YtbkgggcpkiddmaaP11
import Derived.Test.YtbkgggcpkiddmaaPureT
namespace Go.Proofs.Ytbkgggcpkiddmaa.Pure
open Go.RowKit Go.Proofs.Ytbkgggcpkiddmaa.P Go.Proofs.YtbkgggcpkiddmaaW.PrintWords Go.Proofs.YtbkgggcpkiddmaaW.PrintLast Go.Proofs.YtbkgggcpkiddmaaW.PrintMore
set_option linter.unusedVariables false
set_option linter.unusedSimpArgs false
theorem w64 {a : Int} (h : -9223372036854775808 ≤ a) (h' : a ≤ 9223372036854775807) : wrap64 a = a := by unfold wrap64; omega
theorem rd_mid (A X : List Int) (a : Int) (n : Nat) (hn : A.length = n) : rd (A ++ a :: X) (n : Int) = a := by
  subst hn; unfold rd; simp [List.getD_eq_getElem?_getD]
theorem set_mid (A X : List Int) (a b : Int) (n : Nat) (hn : A.length = n) : (A ++ a :: X).set n b = A ++ b :: X := by
  subst hn; simp
theorem swap_mid (A R Z : List Int) (a b : Int) (n m : Nat) (hn : A.length = n) (hm : n + 1 + R.length = m) :
    rd (A ++ (a :: (R ++ b :: Z))) (n : Int) = a ∧ rd (A ++ (a :: (R ++ b :: Z))) (m : Int) = b ∧ ((A ++ (a :: (R ++ b :: Z))).set n b).set m a = (A ++ [b]) ++ (R ++ a :: Z) := by
  refine ⟨rd_mid _ _ _ _ hn, ?_, ?_⟩
  · have := rd_mid (A ++ a :: R) Z b m (by simp; omega)
    simpa using this
  · rw [set_mid _ _ _ _ _ hn]
    have := set_mid (A ++ b :: R) Z b a m (by simp; omega)
    simpa using this
theorem two_ends (R : List Int) : R = [] ∨ (∃ a, R = [a]) ∨ ∃ a M b, R = a :: (M ++ [b]) := by
  cases R with
  | nil => exact .inl rfl
  | cons a R =>
    rcases List.eq_nil_or_concat R with rfl | ⟨M, b, rfl⟩
    · exact .inr (.inl ⟨a, rfl⟩)
    · exact .inr (.inr ⟨a, M, b, by simp⟩)
theorem turn_l0 : ∀ (n : Nat) (R A Z : List Int) (k : Nat), R.length ≤ n → A.length + R.length + Z.length ≤ 1099511627776 → R.length + 1 ≤ k → frisketref14_turn.l0 k (A ++ (R ++ Z)) (A.length : Int) ((A.length + R.length : Nat) : Int) = some (A ++ (R.reverse ++ Z)) := by
  intro n
  induction n with
  | zero =>
    intro R A Z k h1 h2 h3
    obtain rfl : R = [] := List.length_eq_zero_iff.1 (by omega)
    obtain ⟨k, rfl⟩ : ∃ q, k = q + 1 := ⟨k - 1, by omega⟩
    have e : Aside0 (wrap64 (((A.length + ([] : List Int).length : Nat) : Int) - 1) = (A.length : Int) - 1) := ⟨by simp only [List.length_nil] at *; exact (w64 (by omega) (by omega)).trans (by omega)⟩
    rw [frisketref14_turn.l0, e.out, if_neg (by omega)]
    rfl
  | succ n ih =>
    intro R A Z k h1 h2 h3
    obtain ⟨k, rfl⟩ : ∃ q, k = q + 1 := ⟨k - 1, by omega⟩
    have e : Aside0 (wrap64 (((A.length + R.length : Nat) : Int) - 1) = ((A.length + R.length : Nat) : Int) - 1) := ⟨w64 (by omega) (by omega)⟩
    rcases two_ends R with rfl | ⟨a, rfl⟩ | ⟨a, M, b, rfl⟩
    · rw [frisketref14_turn.l0, e.out, if_neg (by simp only [List.length_nil]; omega)]; rfl
    · rw [frisketref14_turn.l0, e.out, if_neg (by simp only [List.length_cons, List.length_nil]; omega)]; rfl
    · have hl : (a :: (M ++ [b])).length = M.length + 2 := by simp
      obtain ⟨s1, s2, s3⟩ := swap_mid A M Z a b A.length (A.length + 1 + M.length) rfl rfl
      have hw : Aside0 (wrap64 ((A.length : Int) + 1) = ((A.length + 1 : Nat) : Int)) := ⟨(w64 (by omega) (by omega)).trans (by omega)⟩
      have e2 : ((A.length + (a :: (M ++ [b])).length : Nat) : Int) - 1 = ((A.length + 1 + M.length : Nat) : Int) := by rw [hl]; omega
      have e3 := Aside0.mk (e.out.trans e2)
      have ih2 := ih M (A ++ [b]) (a :: Z) k (by omega) (by simp only [List.length_append, List.length_cons, List.length_nil]; omega) (by omega)
      rw [show (A ++ [b]).length = A.length + 1 by simp] at ih2
      have el : A ++ (a :: (M ++ [b]) ++ Z) = A ++ (a :: (M ++ b :: Z)) := by simp
      have ll : (A ++ (a :: (M ++ b :: Z))).length = A.length + M.length + Z.length + 2 := by simp; omega
      rw [frisketref14_turn.l0, e3.out, el, if_pos (by omega), if_pos (by omega), if_pos (by rw [ll]; omega), if_pos (by omega), if_pos (by rw [ll]; omega), s1, s2, Int.toNat_natCast, Int.toNat_natCast, s3, hw.out, ih2]
      simp
theorem rev_l0 : ∀ (n : Nat) (R A Z : List Int) (k : Nat), R.length ≤ n → A.length + R.length + Z.length ≤ 1152921504606846976 → R.length + 1 ≤ k → slices_Reverse_int_int.l0 k (A ++ (R ++ Z)) (A.length : Int) (((A.length + R.length : Nat) : Int) - 1) = some (A ++ (R.reverse ++ Z)) := by
  intro n
  induction n with
  | zero =>
    intro R A Z k h1 h2 h3
    obtain rfl : R = [] := List.length_eq_zero_iff.1 (by omega)
    obtain ⟨k, rfl⟩ : ∃ q, k = q + 1 := ⟨k - 1, by omega⟩
    rw [slices_Reverse_int_int.l0, if_neg (by simp only [List.length_nil]; omega)]
    rfl
  | succ n ih =>
    intro R A Z k h1 h2 h3
    obtain ⟨k, rfl⟩ : ∃ q, k = q + 1 := ⟨k - 1, by omega⟩
    rcases two_ends R with rfl | ⟨a, rfl⟩ | ⟨a, M, b, rfl⟩
    · rw [slices_Reverse_int_int.l0, if_neg (by simp only [List.length_nil]; omega)]; rfl
    · rw [slices_Reverse_int_int.l0, if_neg (by simp only [List.length_cons, List.length_nil]; omega)]; rfl
    · have hl : (a :: (M ++ [b])).length = M.length + 2 := by simp
      obtain ⟨s1, s2, s3⟩ := swap_mid A M Z a b A.length (A.length + 1 + M.length) rfl rfl
      have hw : Aside0 (wrap64 ((A.length : Int) + 1) = ((A.length + 1 : Nat) : Int)) := ⟨(w64 (by omega) (by omega)).trans (by omega)⟩
      have hw2 : Aside0 (wrap64 (((A.length + 1 + M.length : Nat) : Int) - 1) = (((A.length + 1) + M.length : Nat) : Int) - 1) := ⟨(w64 (by omega) (by omega)).trans (by omega)⟩
      have e2 : ((A.length + (a :: (M ++ [b])).length : Nat) : Int) - 1 = ((A.length + 1 + M.length : Nat) : Int) := by rw [hl]; omega
      have ih2 := ih M (A ++ [b]) (a :: Z) k (by omega) (by simp only [List.length_append, List.length_cons, List.length_nil]; omega) (by omega)
      rw [show (A ++ [b]).length = A.length + 1 by simp] at ih2
      have el : A ++ (a :: (M ++ [b]) ++ Z) = A ++ (a :: (M ++ b :: Z)) := by simp
      have ll : (A ++ (a :: (M ++ b :: Z))).length = A.length + M.length + Z.length + 2 := by simp; omega
      rw [e2, slices_Reverse_int_int.l0, el, if_pos (by omega), if_pos (by omega), if_pos (by rw [ll]; omega), if_pos (by omega), if_pos (by rw [ll]; omega), s1, s2, Int.toNat_natCast, Int.toNat_natCast, s3, hw.out, hw2.out, ih2]
      simp
theorem reverse_f (l : List Int) (hl : l.length ≤ 1152921504606846976) (k : Nat) (hk : l.length + 1 ≤ k) : slices_Reverse_int_int.f k l = some l.reverse := by
  unfold slices_Reverse_int_int.f
  have e : Aside0 (wrap64 ((l.length : Int) - 1) = (((0 + l.length : Nat) : Int)) - 1) := ⟨(w64 (by omega) (by omega)).trans (by omega)⟩
  have h := rev_l0 l.length l [] [] k (Nat.le_refl _) (by simpa using hl) hk
  rw [e.out]
  simpa using h
/-- The document's turn of all stretches of a level. -/
theorem ref_l2 (l0 : List Int) (n : Int) (N : Nat) (hN : N ≤ 1000000) (hl : l0.length = N) : ∀ (Z R A : List Int) (k : Nat), A.length + R.length + Z.length = N → (∀ x ∈ A ++ (R ++ Z), 0 ≤ x ∧ x < (N : Int)) → N + 1 ≤ k →
    frisketref14_Order.l2 (k + Z.length + 2) l0 (A ++ (R ++ Z)) n (A.length : Int) ((A.length + R.length : Nat) : Int) = frisketref14_Order.l1 k l0 (A ++ rv (rd l0) n R.reverse Z) (wrap64 (n - 1)) := by
  intro Z
  induction Z with
  | nil =>
    intro R A k h1 h2 hk
    have hw : Aside0 (wrap64 (((A.length + R.length : Nat) : Int) + 1) = ((A.length + R.length + 1 : Nat) : Int)) := ⟨(w64 (by omega) (by omega)).trans (by omega)⟩
    have ht := turn_l0 R.length R A [] (k + 1) (Nat.le_refl _) (by simp only [List.length_nil]; simp only [List.length_nil] at h1; omega) (by simp only [List.length_nil] at h1; omega)
    have hll : (A ++ (R ++ ([] : List Int))).length = A.length + R.length := by simp
    have hll2 : (A ++ (R.reverse ++ ([] : List Int))).length = A.length + R.length := by simp
    rw [show k + ([] : List Int).length + 2 = (k + 1) + 1 from rfl, frisketref14_Order.l2, hll, if_pos (Int.le_refl _), if_pos rfl]
    unfold frisketref14_turn.f
    rw [ht, Option.bind_some, hw.out, frisketref14_Order.l2, hll2, if_neg (by omega)]
    simp [rv]
  | cons z Z ih =>
    intro R A k h1 h2 hk
    simp only [List.length_cons] at h1
    have hw : Aside0 (wrap64 (((A.length + R.length : Nat) : Int) + 1) = ((A.length + R.length + 1 : Nat) : Int)) := ⟨(w64 (by omega) (by omega)).trans (by omega)⟩
    have hll : (A ++ (R ++ z :: Z)).length = N := by simp; omega
    have hz := h2 z (by simp)
    have hrd : rd (A ++ (R ++ z :: Z)) ((A.length + R.length : Nat) : Int) = z := by
      have := rd_mid (A ++ R) Z z (A.length + R.length) (by simp)
      simpa using this
    rw [show k + (z :: Z).length + 2 = (k + Z.length + 2) + 1 by simp; omega, frisketref14_Order.l2, hll, if_pos (by omega), if_neg (by omega), if_pos (by omega), if_pos (by omega), hrd, hl, if_pos hz.1, if_pos hz.2]
    by_cases c : rd l0 z < n
    · have ht := turn_l0 R.length R A (z :: Z) (k + Z.length + 2) (Nat.le_refl _) (by simp only [List.length_cons]; omega) (by omega)
      have h := ih [] (A ++ (R.reverse ++ [z])) k (by simp; omega) (by
        intro x hx
        refine h2 x ?_
        simp only [List.mem_append, List.mem_cons, List.mem_reverse, List.not_mem_nil, false_or, or_false] at hx ⊢
        rcases hx with (h | h | h) | h
        · exact .inl h
        · exact .inr (.inl h)
        · exact .inr (.inr (.inl h))
        · exact .inr (.inr (.inr h))) hk
      rw [show ((A ++ (R.reverse ++ [z])).length : Nat) = A.length + R.length + 1 by simp; omega] at h
      rw [if_pos c]
      unfold frisketref14_turn.f
      rw [ht, Option.bind_some, hw.out]
      rw [rv, if_pos c]
      have e1 : A ++ (R.reverse ++ z :: Z) = (A ++ (R.reverse ++ [z])) ++ ([] ++ Z) := by simp
      rw [e1]
      have e2 : (A ++ (R.reverse ++ [z])) ++ rv (rd l0) n ([] : List Int).reverse Z = A ++ (R.reverse ++ z :: rv (rd l0) n [] Z) := by simp
      rw [← e2]
      exact h
    · have h := ih (R ++ [z]) A k (by simp; omega) (by
        intro x hx
        refine h2 x ?_
        simpa using hx) hk
      rw [if_neg c, hw.out, rv, if_neg c]
      have e1 : A ++ (R ++ z :: Z) = A ++ ((R ++ [z]) ++ Z) := by simp
      have e2 : (R ++ [z]).reverse = z :: R.reverse := by simp
      rw [e1, ← e2]
      rw [show A.length + (R ++ [z]).length = A.length + R.length + 1 by simp; omega] at h
      exact h
theorem ref_l1 (l0 : List Int) (N : Nat) (hN : N ≤ 1000000) (hl : l0.length = N) : ∀ (j m k : Nat), m + j = 127 → N + 2 ≤ k → frisketref14_Order.l1 (k + j * (N + 3)) l0 (T (rd l0) m (rng N 0)) (127 - (m : Int)) = some (ord l0, 0)
  | 0, m, k, hm, hk => by
    obtain rfl : m = 127 := by omega
    obtain ⟨k, rfl⟩ : ∃ q, k = q + 1 := ⟨k - 1, by omega⟩
    rw [show k + 1 + 0 * (N + 3) = k + 1 by omega, frisketref14_Order.l1, if_neg (by decide), ord, hl]
  | j + 1, m, k, hm, hk => by
    have hlen := T_len (f := rd l0) m (rng N 0)
    rw [rng_len] at hlen
    have h := ref_l2 l0 (127 - (m : Int)) N hN hl (T (rd l0) m (rng N 0)) [] [] (k + j * (N + 3)) (by simpa using hlen) (by
      intro x hx
      simp only [List.nil_append] at hx
      obtain ⟨q, rfl, h1, h2⟩ := (rng_mem x N 0).1 ((T_mem m _ x).1 hx)
      omega) (by omega)
    have ih := ref_l1 l0 N hN hl j (m + 1) k (by omega) hk
    have hw : Aside0 (wrap64 (127 - (m : Int) - 1) = 127 - ((m + 1 : Nat) : Int)) := ⟨(w64 (by omega) (by omega)).trans (by omega)⟩
    rw [hlen] at h
    rw [Nat.succ_mul, show k + (j * (N + 3) + (N + 3)) = (k + j * (N + 3) + N + 2) + 1 by omega, frisketref14_Order.l1, if_pos (by omega)]
    rw [hw.out] at h
    rw [T] at ih
    simp only [List.nil_append, List.length_nil, List.reverse_nil, Nat.add_zero] at h
    exact h.trans ih
theorem rng_snoc : ∀ (d i : Nat), rng (d + 1) i = rng d i ++ [((i + d : Nat) : Int)] := by
  intro d i
  rw [rng_add]
  rfl
theorem ref_l0 (l0 : List Int) (hN : l0.length ≤ 1000000) (R : List Int × Int) (k0 : Nat) (hbad : ¬ okL l0 → R = ([], 81)) (hgood : okL l0 → ∀ k, k0 ≤ k → frisketref14_Order.l1 k l0 (rng l0.length 0) 127 = some R) :
    ∀ (d i k : Nat), i + d = l0.length → (∀ j : Nat, j < i → 0 ≤ rd l0 (j : Int) ∧ rd l0 (j : Int) ≤ 127) → k0 + d + 1 ≤ k → frisketref14_Order.l0 k l0 (rng i 0) (i : Int) = some R
  | 0, i, k, hi, hj, hk => by
    obtain ⟨k, rfl⟩ : ∃ q, k = q + 1 := ⟨k - 1, by omega⟩
    obtain rfl : i = l0.length := by omega
    rw [frisketref14_Order.l0, if_neg (by omega)]
    exact hgood hj k (by omega)
  | d + 1, i, k, hi, hj, hk => by
    obtain ⟨k, rfl⟩ : ∃ q, k = q + 1 := ⟨k - 1, by omega⟩
    have hw : Aside0 (wrap64 ((i : Int) + 1) = ((i + 1 : Nat) : Int)) := ⟨(w64 (by omega) (by omega)).trans (by omega)⟩
    rw [frisketref14_Order.l0, if_pos (by omega), if_pos (by omega)]
    by_cases c1 : rd l0 (i : Int) < 0
    · rw [if_pos c1, hbad (fun h => by have := h i (by omega); omega)]
    · rw [if_neg c1]
      by_cases c2 : rd l0 (i : Int) > 127
      · rw [if_pos c2, hbad (fun h => by have := h i (by omega); omega)]
      · rw [if_neg c2, if_pos (by rw [rng_len]; omega), hw.out]
        have ih := ref_l0 l0 hN R k0 hbad hgood d (i + 1) k (by omega) (fun j g => by
          by_cases e : j = i
          · subst e; omega
          · exact hj j (by omega)) (by omega)
        rw [rng_snoc, Nat.zero_add] at ih
        exact ih
/-- The answer to levels. -/
def ordA (l : List Int) : List Int × Int := if l.any bad = true then ([], 81) else (ord l, 0)
theorem ordA_ok {l : List Int} (h : okL l) : ordA l = (ord l, 0) := by
  unfold ordA
  rw [(okL_iff l).1 h, if_neg (by decide)]
theorem ordA_no {l : List Int} (h : ¬ okL l) : ordA l = ([], 81) := by
  unfold ordA
  have hb : l.any bad = true := by
    rcases hq : l.any bad with _ | _
    · exact absurd ((okL_iff l).2 hq) h
    · rfl
  rw [hb, if_pos rfl]
theorem order_f (l : List Int) (hl : l.length * 8 ≤ 140737488351232) : reorder_Order.f l = some (ordA l) := by
  by_cases h : okL l
  · rw [order_ok l hl h, ordA_ok h]
  · rw [order_no l hl h, ordA_no h]
theorem refOrder_f (l : List Int) (hN : l.length ≤ 200) (k : Nat) (hk : 30000 ≤ k) : frisketref14_Order.f k l = some (ordA l) := by
  unfold frisketref14_Order.f
  refine ref_l0 l (by omega) (ordA l) (127 * (l.length + 3) + l.length + 2) (fun h => ordA_no h) (fun h k hk => ?_) l.length 0 k (by omega) (fun j g => by omega) (by omega)
  obtain ⟨q, rfl⟩ : ∃ q, k = q + 127 * (l.length + 3) := ⟨k - 127 * (l.length + 3), by omega⟩
  rw [ordA_ok h]
  exact ref_l1 l l.length (by omega) rfl 127 0 q rfl (by omega)
theorem ordA_len (l : List Int) : (ordA l).1.length ≤ l.length := by
  by_cases h : okL l
  · have h2 := ord_len l
    rw [ordA_ok h]
    generalize ord l = x at *
    exact Nat.le_of_eq h2
  · rw [ordA_no h]; simp
def applyA (a : List Int × Int) (b : Bool) : List Int × Int := if b = true then (a.1.reverse, a.2) else a
theorem apply_f (l : List Int) (hl : l.length * 8 ≤ 140737488351232) (b : Bool) (k : Nat) (hk : l.length + 1 ≤ k) : reorder_Apply.f k l b = some (applyA (ordA l) b) := by
  unfold reorder_Apply.f applyA
  have h := ordA_len l
  rw [order_f l hl, Option.bind_some]
  cases b with
  | true => rw [if_pos rfl, if_pos rfl, reverse_f _ (by omega) k (by omega), Option.bind_some]
  | false => rw [if_neg (by decide), if_neg (by decide)]
theorem refApply_f (l : List Int) (hN : l.length ≤ 200) (b : Bool) (k : Nat) (hk : 30000 ≤ k) : frisketref14_Apply.f k l b = some (applyA (ordA l) b) := by
  unfold frisketref14_Apply.f applyA
  have h := ordA_len l
  rw [refOrder_f l hN k hk, Option.bind_some]
  by_cases ho : okL l
  · rw [ordA_ok ho] at h ⊢
    simp only [] at h ⊢
    rw [if_pos trivial]
    cases b with
    | true =>
      have ht := turn_l0 (ord l).length (ord l) [] [] k (Nat.le_refl _) (by simp only [List.length_nil]; omega) (by omega)
      rw [if_pos rfl, if_pos rfl]
      unfold frisketref14_turn.f
      simp only [List.nil_append, List.append_nil, List.length_nil, Nat.zero_add] at ht
      rw [show (((0 : Nat)) : Int) = 0 from rfl] at ht
      rw [ht]
      rfl
    | false => rw [if_neg (by decide), if_neg (by decide)]
  · rw [ordA_no ho]
    simp only []
    rw [if_neg (by decide)]
    cases b <;> rfl
theorem ints_l0 (a : List Int) (ha : a.length ≤ 1099511627776) (d : Nat) : ∀ (j k : Nat), a.length - j = d → d + 1 ≤ k → frisketref01_Ints.l0 k a a j = some true := by
  induction d with
  | zero =>
    intro j k hd hk
    obtain ⟨k, rfl⟩ : ∃ q, k = q + 1 := ⟨k - 1, by omega⟩
    simp only [frisketref01_Ints.l0]
    rw [if_neg (by omega)]
  | succ d ih =>
    intro j k hd hk
    obtain ⟨k, rfl⟩ : ∃ q, k = q + 1 := ⟨k - 1, by omega⟩
    have e2 : wrap64 ((j : Int) + 1) = ((j + 1 : Nat) : Int) := (w64 (by omega) (by omega)).trans (by omega)
    simp only [frisketref01_Ints.l0]
    rw [if_pos (by omega), if_pos (by omega), if_pos (by omega), if_pos trivial, e2]
    exact ih (j + 1) k (by omega) (by omega)
theorem ints_eq (a : List Int) (ha : a.length ≤ 1099511627776) (k : Nat) (hk : a.length + 1 ≤ k) : frisketref01_Ints.f k a a = some true := by
  unfold frisketref01_Ints.f
  rw [if_pos rfl]
  exact ints_l0 a ha a.length 0 k (by omega) hk
theorem alive14 (k : Nat) (hk : 60 ≤ k) : frisketlaw14_alive.f k = some true := by
  have h : frisketlaw14_alive.f 60 = some true := by decide +kernel
  exact at_rounds (g := fun k => frisketlaw14_alive.f k) (fun k => frisketlaw14_alive.mono k) hk h
/-! Where each place is. -/
def bkL (n : Int) : List Int → Int → List Int → List Int × Int
  | [], _, out => (out, 0)
  | x :: X, i, out => if x < 0 ∨ n ≤ x ∨ 0 ≤ rd out x then ([], 1) else bkL n X (i + 1) (out.set x.toNat i)
theorem back_l0 (l : List Int) (hl : l.length ≤ 17592186044416) : ∀ (X P out : List Int) (k : Nat), l = P ++ X → out.length = l.length → X.length + 1 ≤ k → reorder_Back.l0 k l out l (l.length : Int) (P.length : Int) = some (bkL l.length X P.length out)
  | [], P, out, k, h, ho, hk => by
    obtain ⟨k, rfl⟩ : ∃ q, k = q + 1 := ⟨k - 1, by omega⟩
    have : l.length = P.length := by rw [h]; simp
    rw [reorder_Back.l0, if_neg (by omega), bkL]
  | x :: X, P, out, k, h, ho, hk => by
    obtain ⟨k, rfl⟩ : ∃ q, k = q + 1 := ⟨k - 1, by omega⟩
    have hlen : l.length = P.length + (X.length + 1) := by rw [h]; simp
    have hx : rd l (P.length : Int) = x := by rw [h]; exact rd_mid P X x _ rfl
    have hw : Aside0 (wrap64 ((P.length : Int) + 1) = ((P.length + 1 : Nat) : Int)) := ⟨(w64 (by omega) (by omega)).trans (by omega)⟩
    rw [reorder_Back.l0, if_pos (by omega), if_pos (by omega), if_pos (by omega), hx, bkL]
    by_cases c1 : x < 0
    · rw [if_pos c1, if_pos (.inl c1)]
    · rw [if_neg c1]
      by_cases c2 : (l.length : Int) ≤ x
      · rw [if_pos (show x ≥ (l.length : Int) from c2), if_pos (.inr (.inl c2))]
      · rw [if_neg (show ¬ x ≥ (l.length : Int) from c2), if_pos (by omega), if_pos (by omega)]
        by_cases c3 : 0 ≤ rd out x
        · rw [if_pos (show rd out x ≥ 0 from c3), if_pos (.inr (.inr c3))]
        · rw [if_neg (show ¬ rd out x ≥ 0 from c3), if_neg (by omega), hw.out]
          have ih := back_l0 l hl X (P ++ [x]) (out.set x.toNat (P.length : Int)) k (by rw [h]; simp) (by simpa using ho) (by simp only [List.length_cons] at hk; omega)
          rw [show (P ++ [x]).length = P.length + 1 by simp] at ih
          rw [show ((P.length : Int) + 1) = ((P.length + 1 : Nat) : Int) by omega]
          exact ih
def backA (l : List Int) : List Int × Int := bkL l.length l 0 (List.replicate l.length (-1))
theorem back_f (l : List Int) (hl : l.length ≤ 17592186044416) (k : Nat) (hk : l.length + 1 ≤ k) : reorder_Back.f k l = some (backA l) := by
  unfold reorder_Back.f slices_Repeat_int_int.f
  rw [if_pos ⟨rfl, by omega, by omega⟩, Option.bind_some, Int.toNat_natCast]
  exact back_l0 l hl l [] (List.replicate l.length (-1)) k rfl (by simp) hk
end Go.Proofs.Ytbkgggcpkiddmaa.Pure
