/- The pure side of the law PlaceBack: at every page, mode, cells and flag its Lean function answers true. -/
import Derived.Test.YtfaaahchcghnlaaP23
import Derived.Test.YtfaaahchcghnlaaPureBase
namespace Go.Proofs.Ytfaaahchcghnlaa.Pure
open Go.RowKit Go.Proofs.Ytfaaahchcghnlaa.P Go.Proofs.YtfaaahchcghnlaaW.PrintWords Go.Proofs.YtfaaahchcghnlaaW.PrintLast
set_option linter.unusedVariables false
set_option linter.unusedSimpArgs false

/-- The search's one round: whatever the flag, the box is tried with 'R'. -/
def tryB (L C m D N X Y W H : Int) (R : Bool) (a b : Int) : Bool := place_Cells.f L C m a D b N R == some (X, Y, W, H, 0)
theorem cellsN (L C m A D G N : Int) (R : Bool) : ∃ r, place_Cells.f L C m A D G N R = some r := by
  unfold place_Cells.f
  split
  · split
    · exact ⟨_, rfl⟩
    · split
      · exact ⟨_, rfl⟩
      · split <;> exact ⟨_, rfl⟩
  · exact ⟨_, rfl⟩
section
variable (L C m D N X Y W H : Int) (V : Bool)
theorem l1_end (k : Nat) (a b : Int) (hb : ¬ b < C) : frisketref19_Of.l1 (k + 1) m V D N a b L C X Y W H = frisketref19_Of.l0 k m V D N (wrap64 (a + 1)) L C X Y W H := by
  simp only [frisketref19_Of.l1]
  rw [if_neg hb]
theorem l1_step (k : Nat) (a b : Int) (hb : b < C) : frisketref19_Of.l1 (k + 2) m V D N a b L C X Y W H =
    if tryB L C m D N X Y W H (V && (m == 3)) a b = true then some (a, D, b, N, (V && (m == 3)), 0) else frisketref19_Of.l1 (k + 1) m V D N a (wrap64 (b + 1)) L C X Y W H := by
  rw [frisketref19_Of.l1]
  rw [if_pos hb]
  obtain ⟨⟨r1, r2, r3, r4, r5⟩, hr⟩ := cellsN L C m a D b N (V && (m == 3))
  unfold tryB
  cases V
  · simp only [Bool.false_and] at hr ⊢
    rw [if_neg (by decide), refCells_eq, hr]
    simp only [Option.bind_some, Bool.and_eq_true, beq_iff_eq, Option.some.injEq, Prod.mk.injEq]
    by_cases h5 : r5 = 0
    · rw [if_pos h5]
      by_cases hq : r1 = X ∧ r2 = Y ∧ r3 = W ∧ r4 = H
      · rw [if_pos hq, if_pos ⟨hq.1, hq.2.1, hq.2.2.1, hq.2.2.2, h5⟩]
      · rw [if_neg hq, if_neg (fun h => hq ⟨h.1, h.2.1, h.2.2.1, h.2.2.2.1⟩)]
    · rw [if_neg h5, if_neg (fun h => h5 h.2.2.2.2)]
  · simp only [Bool.true_and] at hr ⊢
    rw [if_pos trivial, refCells_eq, hr]
    simp only [Option.bind_some, Bool.and_eq_true, beq_iff_eq, Option.some.injEq, Prod.mk.injEq]
    by_cases h5 : r5 = 0
    · rw [if_pos h5]
      by_cases hq : r1 = X ∧ r2 = Y ∧ r3 = W ∧ r4 = H
      · rw [if_pos hq, if_pos ⟨hq.1, hq.2.1, hq.2.2.1, hq.2.2.2, h5⟩]
      · rw [if_neg hq, if_neg (fun h => hq ⟨h.1, h.2.1, h.2.2.1, h.2.2.2.1⟩)]
    · rw [if_neg h5, if_neg (fun h => h5 h.2.2.2.2)]
theorem row_skip (hC : C ≤ 60) (a : Int) (ha : -1 ≤ a) (ha' : a ≤ 60) (d : Nat) : ∀ (k : Nat) (b : Int), 0 ≤ b → C - b = d → (∀ b', b ≤ b' → b' < C → tryB L C m D N X Y W H (V && (m == 3)) a b' = false) →
    frisketref19_Of.l1 (k + 1 + d) m V D N a b L C X Y W H = frisketref19_Of.l0 k m V D N (a + 1) L C X Y W H := by
  induction d with
  | zero =>
    intro k b h0 hd _
    rw [Nat.add_zero, l1_end _ _ _ _ _ _ _ _ _ _ _ _ _ (by omega), w64 (by omega) (by omega)]
  | succ d ih =>
    intro k b h0 hd hn
    have e : k + 1 + (d + 1) = (k + d) + 2 := by omega
    rw [e, l1_step _ _ _ _ _ _ _ _ _ _ _ _ _ (by omega), hn b (by omega) (by omega), if_neg (by decide), w64 (by omega) (by omega)]
    have e' : k + d + 1 = k + 1 + d := by omega
    rw [e']
    exact ih k (b + 1) (by omega) (by omega) (fun b' h1 h2 => hn b' (by omega) h2)
theorem row_hit (hC : C ≤ 60) (a bi : Int) (hbs : bi < C) (hs : tryB L C m D N X Y W H (V && (m == 3)) a bi = true) (d : Nat) : ∀ (k : Nat) (b : Int), 0 ≤ b → bi - b = d → d + 2 ≤ k → (∀ b', b ≤ b' → b' < bi → tryB L C m D N X Y W H (V && (m == 3)) a b' = false) →
    frisketref19_Of.l1 k m V D N a b L C X Y W H = some (a, D, bi, N, (V && (m == 3)), 0) := by
  induction d with
  | zero =>
    intro k b h0 hd hk _
    obtain ⟨k, rfl⟩ : ∃ q, k = q + 2 := ⟨k - 2, by omega⟩
    have : b = bi := by omega
    subst this
    rw [l1_step _ _ _ _ _ _ _ _ _ _ _ _ _ hbs, hs, if_pos rfl]
  | succ d ih =>
    intro k b h0 hd hk hn
    obtain ⟨k, rfl⟩ : ∃ q, k = q + 2 := ⟨k - 2, by omega⟩
    rw [l1_step _ _ _ _ _ _ _ _ _ _ _ _ _ (by omega), hn b (by omega) (by omega), if_neg (by decide), w64 (by omega) (by omega)]
    exact ih (k + 1) (b + 1) (by omega) (by omega) (by omega) (fun b' h1 h2 => hn b' (by omega) h2)
theorem l0_row (k : Nat) (a : Int) (ha : a < L) : frisketref19_Of.l0 (k + 1) m V D N a L C X Y W H = frisketref19_Of.l1 k m V D N a 0 L C X Y W H := by
  simp only [frisketref19_Of.l0]
  rw [if_pos ha]
theorem rows_skip (c : Nat) (hc : C = c) (hC : C ≤ 60) (hL : L ≤ 60) (d : Nat) : ∀ (k : Nat) (a : Int), 0 ≤ a → a + d ≤ L → (∀ a' b', a ≤ a' → a' < a + d → 0 ≤ b' → b' < C → tryB L C m D N X Y W H (V && (m == 3)) a' b' = false) →
    frisketref19_Of.l0 (k + d * (c + 2)) m V D N a L C X Y W H = frisketref19_Of.l0 k m V D N (a + d) L C X Y W H := by
  induction d with
  | zero =>
    intro k a h0 hd _
    simp
  | succ d ih =>
    intro k a h0 hd hn
    have e : k + (d + 1) * (c + 2) = ((k + d * (c + 2)) + 1 + c) + 1 := by rw [Nat.add_mul]; omega
    rw [e, l0_row _ _ _ _ _ _ _ _ _ _ _ _ (by omega), row_skip L C m D N X Y W H V hC a (by omega) (by omega) c _ 0 (by omega) (by omega) (fun b' h1 h2 => hn a b' (by omega) (by omega) h1 h2)]
    rw [ih k (a + 1) (by omega) (by omega) (fun a' b' h1 h2 h3 h4 => hn a' b' (by omega) (by omega) h3 h4)]
    congr 1
    omega
/-- The search finds the one box there is. -/
theorem search_hit (hC0 : 0 ≤ C) (hC : C ≤ 60) (hL : L ≤ 60) (ai bi : Int) (h1 : 0 ≤ ai) (h2 : ai < L) (h3 : 0 ≤ bi) (h4 : bi < C)
    (hit : ∀ a b, tryB L C m D N X Y W H (V && (m == 3)) a b = true ↔ a = ai ∧ b = bi) (k : Nat) (hk : 4000 ≤ k) :
    frisketref19_Of.l0 k m V D N 0 L C X Y W H = some (ai, D, bi, N, (V && (m == 3)), 0) := by
  have no : ∀ a b, ¬ (a = ai ∧ b = bi) → tryB L C m D N X Y W H (V && (m == 3)) a b = false := fun a b h => by
    cases hq : tryB L C m D N X Y W H (V && (m == 3)) a b with
    | false => rfl
    | true => exact absurd ((hit a b).1 hq) h
  have hb : ai.toNat * (C.toNat + 2) ≤ 60 * 62 := Nat.mul_le_mul (by omega) (by omega)
  obtain ⟨q, rfl⟩ : ∃ q, k = (q + 200) + ai.toNat * (C.toNat + 2) := ⟨k - 200 - ai.toNat * (C.toNat + 2), by omega⟩
  rw [rows_skip L C m D N X Y W H V C.toNat (by omega) hC hL ai.toNat (q + 200) 0 (by omega) (by omega) (fun a' b' _ _ _ _ => no a' b' (by omega))]
  have e : (0 : Int) + (ai.toNat : Int) = ai := by omega
  rw [e, show q + 200 = (q + 199) + 1 from rfl, l0_row _ _ _ _ _ _ _ _ _ _ _ _ h2]
  exact row_hit L C m D N X Y W H V hC ai bi h4 ((hit ai bi).2 ⟨rfl, rfl⟩) bi.toNat _ 0 (by omega) (by omega) (by omega) (fun b' _ h => no ai b' (by omega))
theorem search_none (hC0 : 0 ≤ C) (hC : C ≤ 60) (hL0 : 0 ≤ L) (hL : L ≤ 60) (no : ∀ a b, tryB L C m D N X Y W H (V && (m == 3)) a b = false) (k : Nat) (hk : 4000 ≤ k) :
    frisketref19_Of.l0 k m V D N 0 L C X Y W H = some (0, 0, 0, 0, false, 191) := by
  have hb : L.toNat * (C.toNat + 2) ≤ 60 * 62 := Nat.mul_le_mul (by omega) (by omega)
  obtain ⟨q, rfl⟩ : ∃ q, k = (q + 1) + L.toNat * (C.toNat + 2) := ⟨k - 1 - L.toNat * (C.toNat + 2), by omega⟩
  rw [rows_skip L C m D N X Y W H V C.toNat (by omega) hC hL L.toNat (q + 1) 0 (by omega) (by omega) (fun a' b' _ _ _ _ => no a' b')]
  simp only [frisketref19_Of.l0]
  rw [if_neg (by omega)]
end
theorem try_iff (L C m D N X Y W H : Int) (R : Bool) (a b : Int) : tryB L C m D N X Y W H R a b = true ↔ place_Cells.f L C m a D b N R = some (X, Y, W, H, 0) := by
  unfold tryB; exact beq_iff_eq
theorem refOf_eq (L C m X Y W H : Int) (V : Bool) (k : Nat) (hk : 4001 ≤ k) : frisketref19_Of.f k L C m X Y W H V = place_Of.f L C m X Y W H V := by
  obtain ⟨k, rfl⟩ : ∃ q, k = q + 1 := ⟨k - 1, by omega⟩
  unfold frisketref19_Of.f place_Of.f frisketref19_columns.f
  rw [right_eq]
  by_cases hg : P.Good L C m
  · simp only [Option.bind_some, decide_eq_true hg, if_true, if_pos hg, frisketref19_Of.j0]
    have hg' := hg
    obtain ⟨g1, g2, g3, g4, hm⟩ := hg'
    have F : ∀ (D N a b : Int) (R : Bool), place_Cells.f L C m a D b N R = some (X, Y, W, H, 0) ↔ FitsB L C a D b N ∧ (if m = 1 then some (L - a - D, b, D, N, (0 : Int)) else if m = 2 then some (a, b, D, N, 0) else if m = 3 then some (trn R C b N, a, N, D, 0) else some (b, a, N, D, 0)) = some (X, Y, W, H, 0) := fun D N a b R => by
      unfold place_Cells.f
      by_cases hf : FitsB L C a D b N
      · rw [if_pos ⟨hg, hf⟩]; exact ⟨fun h => ⟨hf, h⟩, fun h => h.2⟩
      · rw [if_neg (fun h => hf h.2)]
        exact ⟨fun h => by simp at h, fun h => absurd h.1 hf⟩
    rcases hm with rfl | rfl | rfl | rfl
    · simp only [show ¬ ((0 : Int) = 1) by decide, show ¬ ((0 : Int) = 2) by decide, show ¬ ((0 : Int) = 3) by decide, if_false, show ((0 : Int) == 2) = false by decide, Bool.false_eq_true, Option.bind_some] at F ⊢
      by_cases hi : InB X W C ∧ InB Y H L
      · rw [if_pos hi]
        obtain ⟨⟨x1, x2, x3, x4⟩, y1, y2, y3, y4⟩ := hi
        rw [search_hit L C 0 H W X Y W H V (by omega) g4 g2 Y X y1 y3 x1 x3 (fun a b => by
          rw [try_iff, F]
          simp only [FitsB, Option.some.injEq, Prod.mk.injEq]
          constructor
          · rintro ⟨_, rfl, rfl, _⟩; exact ⟨rfl, rfl⟩
          · rintro ⟨rfl, rfl⟩; exact ⟨⟨⟨y1, y2, y3, y4⟩, x1, x2, x3, x4⟩, by simp⟩) k (by omega)]
        simp
      · rw [if_neg hi]
        refine search_none L C 0 H W X Y W H V (by omega) g4 (by omega) g2 (fun a b => ?_) k (by omega)
        rw [← Bool.not_eq_true, try_iff, F]
        simp only [FitsB, Option.some.injEq, Prod.mk.injEq]
        rintro ⟨⟨h1, h2⟩, rfl, rfl, _⟩
        exact hi ⟨h2, h1⟩
    · simp only [if_true, Option.bind_some] at F ⊢
      by_cases hi : InB X W L ∧ InB Y H C
      · rw [if_pos hi]
        obtain ⟨⟨x1, x2, x3, x4⟩, y1, y2, y3, y4⟩ := hi
        rw [search_hit L C 1 W H X Y W H V (by omega) g4 g2 (L - X - W) Y (by omega) (by omega) y1 y3 (fun a b => by
          rw [try_iff, F]
          simp only [FitsB, Option.some.injEq, Prod.mk.injEq]
          constructor
          · rintro ⟨_, h, rfl, _⟩; exact ⟨by omega, rfl⟩
          · rintro ⟨rfl, rfl⟩; exact ⟨⟨⟨by omega, by omega, by omega, by omega⟩, y1, y2, y3, y4⟩, by omega, by simp⟩) k (by omega)]
        simp
      · rw [if_neg hi]
        refine search_none L C 1 W H X Y W H V (by omega) g4 (by omega) g2 (fun a b => ?_) k (by omega)
        rw [← Bool.not_eq_true, try_iff, F]
        simp only [FitsB, Option.some.injEq, Prod.mk.injEq]
        rintro ⟨⟨⟨h1, h2, h3, h4⟩, h5⟩, h6, rfl, _⟩
        exact hi ⟨⟨by omega, by omega, by omega, by omega⟩, h5⟩
    · simp only [show ¬ ((2 : Int) = 1) by decide, if_false, if_true, show ((2 : Int) == 2) = true by decide, Option.bind_some] at F ⊢
      by_cases hi : InB X W L ∧ InB Y H C
      · rw [if_pos hi]
        obtain ⟨⟨x1, x2, x3, x4⟩, y1, y2, y3, y4⟩ := hi
        rw [search_hit L C 2 W H X Y W H V (by omega) g4 g2 X Y x1 x3 y1 y3 (fun a b => by
          rw [try_iff, F]
          simp only [FitsB, Option.some.injEq, Prod.mk.injEq]
          constructor
          · rintro ⟨_, rfl, rfl, _⟩; exact ⟨rfl, rfl⟩
          · rintro ⟨rfl, rfl⟩; exact ⟨⟨⟨x1, x2, x3, x4⟩, y1, y2, y3, y4⟩, by simp⟩) k (by omega)]
        simp
      · rw [if_neg hi]
        refine search_none L C 2 W H X Y W H V (by omega) g4 (by omega) g2 (fun a b => ?_) k (by omega)
        rw [← Bool.not_eq_true, try_iff, F]
        simp only [FitsB, Option.some.injEq, Prod.mk.injEq]
        rintro ⟨⟨h1, h2⟩, rfl, rfl, _⟩
        exact hi ⟨h1, h2⟩
    · simp only [show ¬ ((3 : Int) = 1) by decide, show ¬ ((3 : Int) = 2) by decide, if_false, if_true, show ((3 : Int) == 2) = false by decide, Bool.false_eq_true, Option.bind_some] at F ⊢
      by_cases hi : InB X W C ∧ InB Y H L
      · rw [if_pos hi]
        obtain ⟨⟨x1, x2, x3, x4⟩, y1, y2, y3, y4⟩ := hi
        have ht : 0 ≤ trn V C X W ∧ trn V C X W < C ∧ W ≤ C - trn V C X W := by unfold trn; split <;> omega
        rw [search_hit L C 3 H W X Y W H V (by omega) g4 g2 Y (trn V C X W) y1 y3 ht.1 ht.2.1 (fun a b => by
          rw [try_iff, F]
          simp only [FitsB, Option.some.injEq, Prod.mk.injEq, show ((3 : Int) == 3) = true by decide, Bool.and_true]
          constructor
          · rintro ⟨_, h, rfl, _⟩
            refine ⟨rfl, ?_⟩
            unfold trn at h ⊢
            split at h <;> simp_all <;> omega
          · rintro ⟨rfl, rfl⟩
            refine ⟨⟨⟨y1, y2, y3, y4⟩, ht.1, x2, ht.2.1, ht.2.2⟩, ?_, by simp⟩
            unfold trn
            split <;> omega) k (by omega)]
        simp
      · rw [if_neg hi]
        refine search_none L C 3 H W X Y W H V (by omega) g4 (by omega) g2 (fun a b => ?_) k (by omega)
        rw [← Bool.not_eq_true, try_iff, F]
        simp only [FitsB, Option.some.injEq, Prod.mk.injEq]
        rintro ⟨⟨h1, h2, h3, h4, h5⟩, h6, rfl, _⟩
        refine hi ⟨?_, h1⟩
        unfold trn at h6
        split at h6 <;> exact ⟨by omega, by omega, by omega, by omega⟩
  · simp [decide_eq_false hg, if_neg hg]
theorem of_some (L C m X Y W H : Int) (V : Bool) : ∃ r, place_Of.f L C m X Y W H V = some r := by
  unfold place_Of.f
  split
  · split
    · split <;> exact ⟨_, rfl⟩
    · split
      · split <;> exact ⟨_, rfl⟩
      · split
        · split <;> exact ⟨_, rfl⟩
        · exact ⟨_, rfl⟩
  · exact ⟨_, rfl⟩
theorem PlaceBack : ∀ (a0_0 : Int) (a0_1 : Int) (a0_2 : Int) (a1_0 : Int) (a1_1 : Int) (a1_2 : Int) (a1_3 : Int) (a2 : Bool), (Lit.int .i64 a0_0).wf = true → (Lit.int .i64 a0_1).wf = true → (Lit.int .i64 a0_2).wf = true → (Lit.int .i64 a1_0).wf = true → (Lit.int .i64 a1_1).wf = true → (Lit.int .i64 a1_2).wf = true → (Lit.int .i64 a1_3).wf = true → ∃ k, frisketlaw19_PlaceBack.f k a0_0 a0_1 a0_2 a1_0 a1_1 a1_2 a1_3 a2 = some true := by
  intro L C m X Y W H V _ _ _ _ _ _ _
  obtain ⟨K, hK⟩ : ∃ K : Nat, 4001 ≤ K := ⟨4001, Nat.le_refl _⟩
  obtain ⟨⟨r1, r2, r3, r4, r5, r6⟩, hr⟩ := of_some L C m X Y W H V
  obtain ⟨⟨q1, q2, q3, q4, q5, q6⟩, hq⟩ := of_some L C m X Y 1 1 false
  refine ⟨K, ?_⟩
  unfold frisketlaw19_PlaceBack.f frisketref19_At.f place_At.f
  rw [refOf_eq _ _ _ _ _ _ _ _ _ hK, refOf_eq _ _ _ _ _ _ _ _ _ hK, hr, hq, alive19]
  simp [frisketlaw19_same.f, frisketlaw19_box.f]
end Go.Proofs.Ytfaaahchcghnlaa.Pure
