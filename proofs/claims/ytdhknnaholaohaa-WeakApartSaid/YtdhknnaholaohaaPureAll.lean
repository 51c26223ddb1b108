/- All seven weak rules: what they leave, and the document's own pass over them. -/
import Derived.Test.YtdhknnaholaohaaP22
import Derived.Test.YtdhknnaholaohaaP13
import Derived.Test.YtdhknnaholaohaaPureRef
namespace Go.Proofs.Ytdhknnaholaohaa.Pure
open Go.RowKit Go.Proofs.Ytdhknnaholaohaa.P Go.Proofs.YtdhknnaholaohaaW.PrintWords Go.Proofs.YtdhknnaholaohaaW.PrintLast Go.Proofs.YtdhknnaholaohaaW.PrintMore
set_option linter.unusedVariables false
set_option linter.unusedSimpArgs false

theorem AP_len (a : Int) (l : List Int) : (AP a l).length = l.length := RA_len a 7 0 l
theorem refAll_l0 (a : Int) (ha : a = 0 ∨ a = 1) : ∀ (d j k : Nat) (l : List Int), j + d = 7 → l.length ≤ 1000000 → 3 * l.length + 23 + d ≤ k → frisketref10_All.l0 k l a ((j + 1 : Nat) : Int) = some (RA a d j l, 0)
  | 0, j, k, l, hj, hl, hk => by
    obtain ⟨k, rfl⟩ : ∃ q, k = q + 1 := ⟨k - 1, by omega⟩
    rw [frisketref10_All.l0, if_neg (by omega)]
    rfl
  | d + 1, j, k, l, hj, hl, hk => by
    obtain ⟨k, rfl⟩ : ∃ q, k = q + 1 := ⟨k - 1, by omega⟩
    have e1 : Aside0 (wrap64 (((j + 1 : Nat) : Int) + 1) = ((j + 1 + 1 : Nat) : Int)) := ⟨(w64 (by omega) (by omega)).trans (by omega)⟩
    rw [frisketref10_All.l0, if_pos (by omega), refRule_f j (by omega) a ha l hl k (by omega), Option.bind_some, if_pos rfl, e1.out, refAll_l0 a ha d (j + 1) k _ (by omega) (by rw [RN_len]; exact hl) (by rw [RN_len]; omega)]
    rfl
theorem refAll_f (a : Int) (ha : a = 0 ∨ a = 1) (l : List Int) (hl : l.length ≤ 1000000) (k : Nat) (hk : 3 * l.length + 30 ≤ k) : frisketref10_All.f k l a = some (AP a l, 0) := by
  unfold frisketref10_All.f
  exact refAll_l0 a ha 7 0 k l rfl hl (by omega)
theorem refAll_no (a : Int) (h : ¬ (a = 0 ∨ a = 1)) (l : List Int) (k : Nat) : frisketref10_All.f (k + 2) l a = some ([], 1) := by
  unfold frisketref10_All.f
  rw [frisketref10_All.l0, if_pos (by omega), refRule_no 1 a (fun g => h g.2.2) l k, Option.bind_some, if_neg (show ¬ (1 : Int) = 0 by decide)]
theorem ruleBoth (n a : Int) (l : List Int) (hl : l.length ≤ 1000000) : ∃ R, weak_Rule.f n l a = some R ∧ (∀ k, 3 * l.length + 30 ≤ k → frisketref10_Rule.f k n l a = some R) ∧ R.1.length ≤ l.length := by
  by_cases h : 1 ≤ n ∧ n ≤ 7 ∧ (a = 0 ∨ a = 1)
  · obtain ⟨h1, h2, h3⟩ := h
    obtain ⟨j, rfl⟩ : ∃ j : Nat, n = ((j + 1 : Nat) : Int) := ⟨(n - 1).toNat, by omega⟩
    exact ⟨_, rule_f j (by omega) a h3 l hl, fun k hk => refRule_f j (by omega) a h3 l hl k (by omega), Nat.le_of_eq (RN_len j a l)⟩
  · refine ⟨([], 1), rule_no n a h l, fun k hk => ?_, Nat.zero_le _⟩
    obtain ⟨k, rfl⟩ : ∃ q, k = q + 1 := ⟨k - 1, by omega⟩
    exact refRule_no n a h l k
theorem allBoth (a : Int) (l : List Int) (hl : l.length ≤ 1000000) : ∃ R, weak_All.f l a = some R ∧ (∀ k, 3 * l.length + 30 ≤ k → frisketref10_All.f k l a = some R) ∧ R.1.length ≤ l.length ∧ (R.2 == 0) = (a == 0 || a == 1) ∧ (¬ (a = 0 ∨ a = 1) → R.1 = []) := by
  by_cases h : a = 0 ∨ a = 1
  · have e := AP_len a l
    have g1 := all_f a h l hl
    have g2 := refAll_f a h l hl
    generalize AP a l = y at e g1 g2
    refine ⟨(y, 0), g1, g2, Nat.le_of_eq e, ?_, fun g => absurd h g⟩
    rcases h with rfl | rfl <;> rfl
  · refine ⟨([], 1), all_no a h l, fun k hk => ?_, Nat.zero_le _, ?_, fun _ => rfl⟩
    · obtain ⟨k, rfl⟩ : ∃ q, k = q + 2 := ⟨k - 2, by omega⟩
      exact refAll_no a h l k
    · rw [beq_eq_false_iff_ne.2 (show a ≠ 0 by omega), beq_eq_false_iff_ne.2 (show a ≠ 1 by omega)]; rfl
theorem and1 (n : Int) : Go.bits .and .i64 n 1 = n % 2 := by
  have h7 : (BitVec.ofInt 64 1).toNat = 2 ^ 1 - 1 := by decide
  have key : (BitVec.ofInt 64 n &&& BitVec.ofInt 64 1).toNat = (n % ((2 ^ 64 : Nat) : Int)).toNat % 2 ^ 1 := by
    rw [BitVec.toNat_and, BitVec.toNat_ofInt, h7, Nat.and_two_pow_sub_one_eq_mod]
  show IntKind.i64.wrap ((BitVec.ofInt 64 n &&& BitVec.ofInt 64 1).toNat : Nat) = n % 2
  rw [key, IntKind.wrap_i64]
  omega
theorem side_f (n : Int) : ∃ a, frisketlaw10_side.f n = some a ∧ (a = 0 ∨ a = 1) := by
  unfold frisketlaw10_side.f
  by_cases h : Go.bits .and .i64 n 1 = 1
  · exact ⟨1, by rw [if_pos h], .inr rfl⟩
  · exact ⟨0, by rw [if_neg h], .inl rfl⟩
/-! What the rules leave. -/
theorem RN_id (j : Nat) (a : Int) (l : List Int) (h : ∀ i : Nat, i < l.length → rN j a l i = rd l (i : Int)) : RN j a l = l := by
  refine List.ext_getElem (RN_len j a l) (fun i h1 h2 => ?_)
  have e1 := rd_RN j a l i h2
  rw [rd_at _ i h1, h i h2, rd_at l i h2] at e1
  exact e1
theorem markW_of {x v : Int} (h : v ≠ 8) : markW x v = v := by unfold markW; rw [beq_eq_false_iff_ne.2 h]; rfl
theorem m1_of (l : List Int) (a : Int) (i : Nat) (h : rd l (i : Int) ≠ 8) : m1 l a i = rd l (i : Int) := by rw [m1_last, markW_of h]
theorem b1_of (s t : Int) (l : List Int) (a : Int) (i : Nat) (h : rd l (i : Int) ≠ 3 ∨ sb l a i ≠ s) : b1 s t l a i = rd l (i : Int) := by
  unfold b1
  rw [if_neg]
  intro g
  rw [Bool.and_eq_true, beq_iff_eq, beq_iff_eq] at g
  rcases h with h | h
  · exact h g.1
  · exact h g.2
theorem b1_or (s t : Int) (l : List Int) (a : Int) (i : Nat) : b1 s t l a i = rd l (i : Int) ∨ b1 s t l a i = t := by
  unfold b1; split <;> simp
theorem s4_of (l : List Int) (i : Nat) (h4 : rd l (i : Int) ≠ 4) (h7 : rd l (i : Int) ≠ 7) : s4 l i = rd l (i : Int) := by
  cases i with
  | zero => rfl
  | succ i => rw [s4, if_neg (fun h => by rcases h.2.1 with g | g; exact h4 g; exact h7 g)]
theorem s4_or (l : List Int) (i : Nat) : s4 l i = rd l (i : Int) ∨ s4 l i = 3 ∨ s4 l i = 6 := by
  cases i with
  | zero => exact .inl rfl
  | succ i =>
    rw [s4]
    split
    · rename_i h
      rcases h.2.2.1 with g | g
      · exact .inr (.inl g)
      · exact .inr (.inr g.1)
    · exact .inl rfl
theorem t5_of (l : List Int) (i : Nat) (h : rd l (i : Int) ≠ 5) : t5 l i = rd l (i : Int) := by unfold t5; rw [if_neg (fun g => h g.1)]
theorem t5_or (l : List Int) (i : Nat) : t5 l i = rd l (i : Int) ∨ t5 l i = 3 := by unfold t5; split <;> simp
theorem r3_of (l : List Int) (i : Nat) (h : rd l (i : Int) ≠ 2) : r3 l i = rd l (i : Int) := by unfold r3; rw [beq_eq_false_iff_ne.2 h]; rfl
theorem r3_to (l : List Int) (i : Nat) (h : rd l (i : Int) = 2) : r3 l i = 1 := by unfold r3; rw [h]; rfl
theorem r3_or (l : List Int) (i : Nat) : r3 l i = rd l (i : Int) ∨ r3 l i = 1 := by unfold r3; split <;> simp
theorem o6_of (l : List Int) (i : Nat) (h4 : rd l (i : Int) ≠ 4) (h5 : rd l (i : Int) ≠ 5) (h7 : rd l (i : Int) ≠ 7) : o6 l i = rd l (i : Int) := by unfold o6; rw [beq_eq_false_iff_ne.2 h4, beq_eq_false_iff_ne.2 h5, beq_eq_false_iff_ne.2 h7]; rfl
theorem o6_or (l : List Int) (i : Nat) : o6 l i = rd l (i : Int) ∨ o6 l i = 13 := by unfold o6; split <;> simp
theorem o6_not (l : List Int) (i : Nat) : o6 l i ≠ 4 ∧ o6 l i ≠ 5 ∧ o6 l i ≠ 7 := by
  unfold o6
  split
  · decide
  · rename_i h
    simp only [Bool.or_eq_true, beq_iff_eq] at h
    omega
/-- A class that no rule reads to change. -/
theorem stay (j : Nat) (hj : j < 7) (a : Int) (l : List Int) (i : Nat) (h : rd l (i : Int) ≠ 8 ∧ rd l (i : Int) ≠ 3 ∧ rd l (i : Int) ≠ 2 ∧ rd l (i : Int) ≠ 4 ∧ rd l (i : Int) ≠ 5 ∧ rd l (i : Int) ≠ 7) : rN j a l i = rd l (i : Int) := by
  obtain ⟨h8, h3, h2, h4, h5, h7⟩ := h
  match j, hj with
  | 0, _ => exact m1_of l a i h8
  | 1, _ => exact b1_of 2 6 l a i (.inl h3)
  | 2, _ => exact r3_of l i h2
  | 3, _ => exact s4_of l i h4 h7
  | 4, _ => exact t5_of l i h5
  | 5, _ => exact o6_of l i h4 h5 h7
  | 6, _ => exact b1_of 0 0 l a i (.inl h3)
theorem moves (j : Nat) (hj : j < 6) (a : Int) (l : List Int) (i : Nat) : rN (j + 1) a l i = rd l (i : Int) ∨ rN (j + 1) a l i = 6 ∨ rN (j + 1) a l i = 1 ∨ rN (j + 1) a l i = 3 ∨ rN (j + 1) a l i = 13 ∨ rN (j + 1) a l i = 0 := by
  match j, hj with
  | 0, _ => have := b1_or 2 6 l a i; show b1 2 6 l a i = _ ∨ b1 2 6 l a i = _ ∨ b1 2 6 l a i = _ ∨ b1 2 6 l a i = _ ∨ b1 2 6 l a i = _ ∨ b1 2 6 l a i = _; omega
  | 1, _ => have := r3_or l i; show r3 l i = _ ∨ r3 l i = _ ∨ r3 l i = _ ∨ r3 l i = _ ∨ r3 l i = _ ∨ r3 l i = _; omega
  | 2, _ => have := s4_or l i; show s4 l i = _ ∨ s4 l i = _ ∨ s4 l i = _ ∨ s4 l i = _ ∨ s4 l i = _ ∨ s4 l i = _; omega
  | 3, _ => have := t5_or l i; show t5 l i = _ ∨ t5 l i = _ ∨ t5 l i = _ ∨ t5 l i = _ ∨ t5 l i = _ ∨ t5 l i = _; omega
  | 4, _ => have := o6_or l i; show o6 l i = _ ∨ o6 l i = _ ∨ o6 l i = _ ∨ o6 l i = _ ∨ o6 l i = _ ∨ o6 l i = _; omega
  | 5, _ => have := b1_or 0 0 l a i; show b1 0 0 l a i = _ ∨ b1 0 0 l a i = _ ∨ b1 0 0 l a i = _ ∨ b1 0 0 l a i = _ ∨ b1 0 0 l a i = _ ∨ b1 0 0 l a i = _; omega
/-- None of the places is v. -/
def Free (v : Int) (l : List Int) : Prop := ∀ i : Nat, i < l.length → rd l (i : Int) ≠ v
theorem free_RN (j : Nat) (hj : j < 6) (a : Int) (l : List Int) (v : Int) (hv : v = 8 ∨ v = 2 ∨ v = 4 ∨ v = 5 ∨ v = 7) (h : Free v l) : Free v (RN (j + 1) a l) := fun i hi => by
  rw [RN_len] at hi
  rw [rd_RN _ _ _ _ hi]
  have := moves j hj a l i
  have := h i hi
  omega
theorem free8 (a : Int) (ha : a ≠ 8) (l : List Int) : Free 8 (RN 0 a l) := fun i hi => by
  rw [RN_len] at hi
  rw [rd_RN _ _ _ _ hi]
  show m1 l a i ≠ 8
  have key : ∀ x v : Int, x ≠ 8 → markW x v ≠ 8 := fun x v hx => by
    unfold markW
    split
    · exact hx
    · rename_i h; rwa [beq_iff_eq] at h
  have iso : ∀ x : Int, x ≠ 8 → isoW x ≠ 8 := fun x hx => by
    unfold isoW
    split
    · decide
    · exact hx
  clear hi
  induction i with
  | zero => exact key _ _ ha
  | succ i ih => exact key _ _ (iso _ ih)
theorem free2 (a : Int) (l : List Int) : Free 2 (RN 2 a l) := fun i hi => by
  rw [RN_len] at hi
  rw [rd_RN _ _ _ _ hi]
  show r3 l i ≠ 2
  by_cases h : rd l (i : Int) = 2
  · rw [r3_to l i h]; decide
  · rw [r3_of l i h]; exact h
theorem free457 (a : Int) (l : List Int) (v : Int) (hv : v = 4 ∨ v = 5 ∨ v = 7) : Free v (RN 5 a l) := fun i hi => by
  rw [RN_len] at hi
  rw [rd_RN _ _ _ _ hi]
  show o6 l i ≠ v
  have := o6_not l i
  omega
theorem AP_eq (a : Int) (l : List Int) : AP a l = RN 6 a (RN 5 a (RN 4 a (RN 3 a (RN 2 a (RN 1 a (RN 0 a l)))))) := rfl
theorem AP_free (a : Int) (ha : a = 0 ∨ a = 1) (l : List Int) (v : Int) (hv : v = 8 ∨ v = 2 ∨ v = 4 ∨ v = 5 ∨ v = 7) : Free v (RN 5 a (RN 4 a (RN 3 a (RN 2 a (RN 1 a (RN 0 a l)))))) ∧ Free v (AP a l) := by
  have h : Free v (RN 5 a (RN 4 a (RN 3 a (RN 2 a (RN 1 a (RN 0 a l)))))) := by
    rcases hv with rfl | rfl | h
    · exact free_RN 4 (by omega) a _ 8 (.inl rfl) (free_RN 3 (by omega) a _ 8 (.inl rfl) (free_RN 2 (by omega) a _ 8 (.inl rfl) (free_RN 1 (by omega) a _ 8 (.inl rfl) (free_RN 0 (by omega) a _ 8 (.inl rfl) (free8 a (by omega) l)))))
    · exact free_RN 4 (by omega) a _ 2 (.inr (.inl rfl)) (free_RN 3 (by omega) a _ 2 (.inr (.inl rfl)) (free_RN 2 (by omega) a _ 2 (.inr (.inl rfl)) (free2 a _)))
    · exact free457 a _ v h
  exact ⟨h, free_RN 5 (by omega) a _ v hv h⟩
theorem AP_stay (a : Int) (l : List Int) (i : Nat) (hi : i < l.length) (h : rd l (i : Int) ≠ 8 ∧ rd l (i : Int) ≠ 3 ∧ rd l (i : Int) ≠ 2 ∧ rd l (i : Int) ≠ 4 ∧ rd l (i : Int) ≠ 5 ∧ rd l (i : Int) ≠ 7) : rd (AP a l) (i : Int) = rd l (i : Int) := by
  have go : ∀ (d j : Nat) (y : List Int), j + d = 7 → i < y.length → rd y (i : Int) = rd l (i : Int) → rd (RA a d j y) (i : Int) = rd l (i : Int) := by
    intro d
    induction d with
    | zero => intro j y _ _ e; exact e
    | succ d ih =>
      intro j y hj hy e
      refine ih (j + 1) _ (by omega) (by rw [RN_len]; exact hy) ?_
      rw [rd_RN _ _ _ _ hy, stay j (by omega) a y i (by rw [e]; exact h), e]
  exact go 7 0 l rfl hi rfl
theorem AP_two (a : Int) (l : List Int) (i : Nat) (hi : i < l.length) (h : rd l (i : Int) = 2) : rd (AP a l) (i : Int) = 1 := by
  have h0 : rd (RN 0 a l) (i : Int) = 2 := by rw [rd_RN _ _ _ _ hi]; show m1 l a i = 2; rw [m1_of l a i (by omega), h]
  have l0 : i < (RN 0 a l).length := by rw [RN_len]; exact hi
  have h1 : rd (RN 1 a (RN 0 a l)) (i : Int) = 2 := by rw [rd_RN _ _ _ _ l0]; show b1 2 6 _ a i = 2; rw [b1_of _ _ _ _ _ (.inl (by omega)), h0]
  have l1 : i < (RN 1 a (RN 0 a l)).length := by rw [RN_len]; exact l0
  have h2 : rd (RN 2 a (RN 1 a (RN 0 a l))) (i : Int) = 1 := by rw [rd_RN _ _ _ _ l1]; exact r3_to _ i h1
  have l2 : i < (RN 2 a (RN 1 a (RN 0 a l))).length := by rw [RN_len]; exact l1
  have go : ∀ (d j : Nat) (y : List Int), j + d = 7 → i < y.length → rd y (i : Int) = 1 → rd (RA a d j y) (i : Int) = 1 := by
    intro d
    induction d with
    | zero => intro j y _ _ e; exact e
    | succ d ih =>
      intro j y hj hy e
      refine ih (j + 1) _ (by omega) (by rw [RN_len]; exact hy) ?_
      rw [rd_RN _ _ _ _ hy, stay j (by omega) a y i (by rw [e]; decide), e]
  exact go 4 3 _ rfl l2 h2
theorem sb_ne (l : List Int) (a v : Int) (ha : a ≠ v) : ∀ i : Nat, i ≤ l.length → Free v l → sb l a i ≠ v
  | 0, _, _ => ha
  | i + 1, hi, h => by
    rw [sb]
    split
    · exact h i hi
    · exact sb_ne l a v ha i (by omega) h
theorem still (j : Nat) (hj : j < 6) (a : Int) (ha : a = 0 ∨ a = 1) (l : List Int) (h : ∀ v : Int, v = 8 ∨ v = 2 ∨ v = 4 ∨ v = 5 ∨ v = 7 → Free v l) : RN j a l = l := by
  refine RN_id j a l (fun i hi => ?_)
  have h8 := h 8 (by omega) i hi
  have h2 := h 2 (by omega) i hi
  have h4 := h 4 (by omega) i hi
  have h5 := h 5 (by omega) i hi
  have h7 := h 7 (by omega) i hi
  match j, hj with
  | 0, _ => exact m1_of l a i h8
  | 1, _ => exact b1_of 2 6 l a i (.inr (sb_ne l a 2 (by omega) i (by omega) (h 2 (by omega))))
  | 2, _ => exact r3_of l i h2
  | 3, _ => exact s4_of l i h4 h7
  | 4, _ => exact t5_of l i h5
  | 5, _ => exact o6_of l i h4 h5 h7
theorem sb_last (a : Int) (y : List Int) : ∀ i : Nat, i ≤ y.length → sb (RN 6 a y) a i = sb y a i
  | 0, _ => rfl
  | i + 1, hi => by
    have ih := sb_last a y i (by omega)
    rw [sb, sb, ih, rd_RN _ _ _ _ hi]
    show (if strB (b1 0 0 y a i) = true then b1 0 0 y a i else sb y a i) = _
    by_cases c : rd y (i : Int) = 3 ∧ sb y a i = 0
    · have e : b1 0 0 y a i = 0 := by unfold b1; rw [c.1, c.2]; rfl
      rw [e, c.1, c.2]; rfl
    · rw [b1_of 0 0 y a i (by omega)]
theorem last_still (a : Int) (y : List Int) : RN 6 a (RN 6 a y) = RN 6 a y := by
  refine RN_id 6 a _ (fun i hi => ?_)
  rw [RN_len] at hi
  refine b1_of 0 0 _ a i ?_
  rw [sb_last a y i (by omega), rd_RN _ _ _ _ hi]
  show b1 0 0 y a i ≠ 3 ∨ sb y a i ≠ 0
  by_cases c : sb y a i = 0
  · left
    by_cases c3 : rd y (i : Int) = 3
    · have e : b1 0 0 y a i = 0 := by unfold b1; rw [c3, c]; rfl
      rw [e]; decide
    · rw [b1_of 0 0 y a i (.inl c3)]; exact c3
  · exact .inr c
/-- A second pass changes nothing. -/
theorem AP_twice (a : Int) (ha : a = 0 ∨ a = 1) (l : List Int) : AP a (AP a l) = AP a l := by
  have h := fun v hv => (AP_free a ha l v hv).2
  rw [AP_eq a (AP a l), still 0 (by omega) a ha _ h, still 1 (by omega) a ha _ h, still 2 (by omega) a ha _ h, still 3 (by omega) a ha _ h, still 4 (by omega) a ha _ h, still 5 (by omega) a ha _ h]
  exact last_still a _
end Go.Proofs.Ytdhknnaholaohaa.Pure
