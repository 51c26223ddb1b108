/- The pure side of the law FillParts: at every things, cells and line its Lean function answers true. -/
import Derived.Test.YteeoomenncocpaaP9
import Derived.Test.YteeoomenncocpaaPureBase
namespace Go.Proofs.Yteeoomenncocpaa.Pure
open Go.RowKit Go.Proofs.Yteeoomenncocpaa.P Go.Proofs.YteeoomenncocpaaW.PrintWords Go.Proofs.YteeoomenncocpaaW.PrintLast Go.Proofs.YteeoomenncocpaaW.PrintMore
set_option linter.unusedVariables false
set_option linter.unusedSimpArgs false

theorem linesN_cons {l0 l1 : List Int} {c : Int} (hk : Ok l0 l1 c) (hl : l0.length ≤ 1048576) {m : Nat} {a : Int} {x : List S32} (h : linesN l0 l1 c m a = some x) (ha : 0 ≤ a) (hx : x ≠ []) :
    ∃ m' q, x = lineA l0 l1 c a :: q ∧ a < (l0.length : Int) ∧ linesN l0 l1 c m' (lineA l0 l1 c a).f1 = some q := by
  by_cases hil : a < (l0.length : Int)
  · cases m with
    | zero => simp [linesN] at h
    | succ m =>
      rw [linesN_go hk hl m ha hil] at h
      obtain ⟨q, h1, rfl⟩ := Option.map_eq_some_iff.1 h
      exact ⟨m, q, rfl, hil, h1⟩
  · exact absurd (linesN_end h hil) hx
theorem linesN_uniq {l0 l1 : List Int} {c : Int} (hk : Ok l0 l1 c) (hl : l0.length ≤ 1048576) : ∀ (x : List S32) {m m' : Nat} {a : Int} {y : List S32}, 0 ≤ a → linesN l0 l1 c m a = some x → linesN l0 l1 c m' a = some y → x = y
  | [], m, m', a, y, ha, h, h' => by
    by_cases hil : a < (l0.length : Int)
    · cases m with
      | zero => simp [linesN] at h
      | succ m =>
        rw [linesN_go hk hl m ha hil] at h
        obtain ⟨q, h1, h2⟩ := Option.map_eq_some_iff.1 h
        cases h2
    · exact (linesN_end h' hil).symm
  | z :: x, m, m', a, y, ha, h, h' => by
    obtain ⟨m1, q, e, hil, h1⟩ := linesN_cons hk hl h ha (by simp)
    cases m' with
    | zero => simp [linesN] at h'
    | succ m' =>
      rw [linesN_go hk hl m' ha hil] at h'
      obtain ⟨q', h2, rfl⟩ := Option.map_eq_some_iff.1 h'
      obtain ⟨rfl, rfl⟩ := List.cons.inj e
      rw [linesN_uniq hk hl x (by have := (lineA_to (l0 := l0) (l1 := l1) (c := c) ha hil).1; omega) h1 h2]
/-- Behind a line stand the other lines. -/
theorem linesN_behind {l0 l1 : List Int} {c : Int} (hk : Ok l0 l1 c) (hl : l0.length ≤ 1048576) : ∀ (i : Nat) {m : Nat} {a : Int} {x : List S32} (hi : i < x.length), 0 ≤ a → linesN l0 l1 c m a = some x →
    0 ≤ (x[i]).f1 ∧ (x[i]).f1 ≤ (l0.length : Int) ∧ ∃ m', linesN l0 l1 c m' (x[i]).f1 = some (x.drop (i + 1))
  | 0, m, a, x, hi, ha, h => by
    obtain ⟨m1, q, rfl, hil, h1⟩ := linesN_cons hk hl h ha (by intro e; simp [e] at hi)
    have ht := lineA_to (l0 := l0) (l1 := l1) (c := c) ha hil
    exact ⟨by simp only [List.getElem_cons_zero]; omega, by simp only [List.getElem_cons_zero]; omega, m1, by simpa using h1⟩
  | i + 1, m, a, x, hi, ha, h => by
    obtain ⟨m1, q, rfl, hil, h1⟩ := linesN_cons hk hl h ha (by intro e; simp [e] at hi)
    have ht := lineA_to (l0 := l0) (l1 := l1) (c := c) ha hil
    have := linesN_behind hk hl i (x := q) (by simpa using hi) (by omega) h1
    simpa using this
theorem linesN_from {l0 l1 : List Int} {c : Int} (hk : Ok l0 l1 c) (hl : l0.length ≤ 1048576) : ∀ (i : Nat) {m : Nat} {a : Int} {x : List S32} (hi : i < x.length), 0 ≤ a → linesN l0 l1 c m a = some x →
    0 ≤ (x[i]).f0 ∧ (x[i]).f0 ≤ (l0.length : Int)
  | 0, m, a, x, hi, ha, h => by
    obtain ⟨m1, q, rfl, hil, h1⟩ := linesN_cons hk hl h ha (by intro e; simp [e] at hi)
    simp only [List.getElem_cons_zero]
    exact ⟨ha, by simp only [lineA]; omega⟩
  | i + 1, m, a, x, hi, ha, h => by
    obtain ⟨m1, q, rfl, hil, h1⟩ := linesN_cons hk hl h ha (by intro e; simp [e] at hi)
    have ht := lineA_to (l0 := l0) (l1 := l1) (c := c) ha hil
    have := linesN_from hk hl i (x := q) (by simpa using hi) (by omega) h1
    simpa using this
theorem rd_drop (l : List Int) (s : Nat) (i : Int) (h : 0 ≤ i) : rd (l.drop s) i = rd l (i + s) := by
  unfold rd
  have e : (i + (s : Int)).toNat = s + i.toNat := by omega
  rw [e, List.getD_eq_getElem?_getD, List.getD_eq_getElem?_getD, List.getElem?_drop]
theorem lineP_shift (l0 l1 : List Int) (c : Int) (s : Nat) (a : Int) (d : Nat) : ∀ (t n bt bn : Int), 0 ≤ t →
    lineP (l0.drop s) (l1.drop s) c a d t n bt bn = ((lineP l0 l1 c (a + s) d (t + s) n (bt + s) bn).1 - s, (lineP l0 l1 c (a + s) d (t + s) n (bt + s) bn).2.1, (lineP l0 l1 c (a + s) d (t + s) n (bt + s) bn).2.2) := by
  induction d with
  | zero =>
    intro t n bt bn ht
    simp only [lineP]
    by_cases h : bt > a
    · rw [if_pos h, if_pos (by omega)]; simp
    · rw [if_neg h, if_neg (by omega)]; simp
  | succ d ih =>
    intro t n bt bn ht
    simp only [lineP]
    rw [rd_drop l0 s t ht, rd_drop l1 s t ht]
    have e : t + 1 + (s : Int) = t + s + 1 := by omega
    by_cases h1 : t > a ∧ n + mn (rd l0 (t + s)) c > c
    · rw [if_pos h1, if_pos (show t + (s : Int) > a + s ∧ _ from ⟨by omega, h1.2⟩)]
      by_cases h : bt > a
      · rw [if_pos h, if_pos (by omega)]; simp
      · rw [if_neg h, if_neg (by omega)]; simp
    · rw [if_neg h1, if_neg (show ¬ (t + (s : Int) > a + s ∧ _) from fun h => h1 ⟨by omega, h.2⟩)]
      by_cases h2 : rd l1 (t + s) = 2 ∨ d = 0
      · rw [if_pos h2, if_pos h2]; simp; omega
      · rw [if_neg h2, if_neg h2]
        by_cases h3 : rd l1 (t + s) = 1
        · rw [if_pos h3, if_pos h3, ih _ _ _ _ (by omega), e]
        · rw [if_neg h3, if_neg h3, ih _ _ _ _ (by omega), e]
def shiftL (s : Int) (y : S32) : S32 := ⟨y.f0 + s, y.f1 + s, y.f2, y.f3⟩
theorem lineA_shift (l0 l1 : List Int) (c : Int) (s : Nat) (a : Int) (ha : 0 ≤ a) : shiftL s (lineA (l0.drop s) (l1.drop s) c a) = lineA l0 l1 c (a + s) := by
  unfold lineA shiftL
  rw [lineP_shift l0 l1 c s a _ a 0 a 0 ha]
  have e : (l0.drop s).length - a.toNat = l0.length - (a + (s : Int)).toNat := by rw [List.length_drop]; omega
  rw [e]
  simp
theorem right_drop {l0 l1 : List Int} {c : Int} (s : Nat) (hs : (s : Int) ≤ (l0.length : Int)) (h : rightF l0 l1 c = true) : rightF (l0.drop s) (l1.drop s) c = true := by
  unfold rightF at h ⊢
  simp only [Bool.and_eq_true, decide_eq_true_eq, Bool.not_eq_true', Bool.or_eq_false_iff, List.any_eq_false] at h ⊢
  obtain ⟨h1, h2, h3, h4, h5⟩ := h
  exact ⟨by simp only [List.length_drop]; omega, h2, h3, fun x hx => h4 x (List.mem_of_mem_drop hx), fun x hx => h5 x (List.mem_of_mem_drop hx)⟩
theorem linesN_shift {l0 l1 : List Int} {c : Int} (hk : Ok l0 l1 c) (hl : l0.length ≤ 1048576) (s : Nat) (hs : (s : Int) ≤ (l0.length : Int)) (hk' : Ok (l0.drop s) (l1.drop s) c) : ∀ (m : Nat) (a : Int) (q : List S32), 0 ≤ a →
    linesN (l0.drop s) (l1.drop s) c m a = some q → linesN l0 l1 c m (a + s) = some (q.map (shiftL s))
  | 0, a, q, ha, h => by simp [linesN] at h
  | m + 1, a, q, ha, h => by
    have hld : ((l0.drop s).length : Int) = (l0.length : Int) - s := by rw [List.length_drop]; omega
    by_cases hil : a < ((l0.drop s).length : Int)
    · rw [linesN_go hk' (by rw [List.length_drop]; omega) m ha hil] at h
      obtain ⟨q', h1, rfl⟩ := Option.map_eq_some_iff.1 h
      have ht := lineA_to (l0 := l0.drop s) (l1 := l1.drop s) (c := c) ha hil
      have h2 := linesN_shift hk hl s hs hk' m _ q' (by omega) h1
      rw [linesN_go hk hl m (by omega) (by omega), ← lineA_shift l0 l1 c s a ha]
      have e : (shiftL s (lineA (l0.drop s) (l1.drop s) c a)).f1 = (lineA (l0.drop s) (l1.drop s) c a).f1 + s := rfl
      rw [e, h2]
      rfl
    · obtain rfl := linesN_end h hil
      simp only [linesN]
      rw [if_neg (by omega)]
      rfl
theorem parts_l0 (i : Int) (at_ : Int) (x y : List S32) (hi0 : 0 ≤ i) (hx : x.length ≤ 1048577) (hlen : (x.length : Int) = i + 1 + y.length)
    (hy : ∀ j : Nat, j < y.length → rd_T32 x (i + 1 + j) = shiftL at_ (rd_T32 y j)) (hb : ∀ j : Nat, j < y.length → wrap64 ((rd_T32 y j).f0 + at_) = (rd_T32 y j).f0 + at_ ∧ wrap64 ((rd_T32 y j).f1 + at_) = (rd_T32 y j).f1 + at_) (d : Nat) :
    ∀ (j : Nat) (k : Nat), y.length - j = d → d + 1 ≤ k → frisketlaw17_FillParts.l0 k i x at_ y j = some true := by
  induction d with
  | zero =>
    intro j k hd hk
    obtain ⟨k, rfl⟩ : ∃ q, k = q + 1 := ⟨k - 1, by omega⟩
    simp only [frisketlaw17_FillParts.l0]
    rw [if_neg (by omega), alive17]
    rfl
  | succ d ih =>
    intro j k hd hk
    obtain ⟨k, rfl⟩ : ∃ q, k = q + 1 := ⟨k - 1, by omega⟩
    simp only [frisketlaw17_FillParts.l0]
    have e1 : wrap64 (wrap64 (i + 1) + (j : Int)) = i + 1 + j := by rw [w64 (a := i + 1) (by omega) (by omega), w64 (by omega) (by omega)]
    have e2 : wrap64 ((j : Int) + 1) = ((j + 1 : Nat) : Int) := by rw [w64 (by omega) (by omega)]; omega
    obtain ⟨b1, b2⟩ := hb j (by omega)
    rw [if_pos (show (j : Int) < (y.length : Int) by omega), e1, if_pos (show 0 ≤ i + 1 + (j : Int) by omega), if_pos (show i + 1 + (j : Int) < (x.length : Int) by omega), if_pos (show 0 ≤ (j : Int) by omega), hy j (by omega), b1, b2, e2]
    simp only [shiftL, if_true, bne_self_eq_false, Bool.false_eq_true, if_false]
    exact ih (j + 1) k (by omega) (by omega)
theorem parts_quick (k : Nat) (i : Int) (x : List S32) (l0 l1 : List Int) (c : Int) : frisketlaw17_FillParts.j0 (k + 1) i x true l0 l1 c = some true := by
  simp only [frisketlaw17_FillParts.j0, if_true, alive17]
  rfl
theorem FillParts : ∀ (l0_0 : List Int) (l0_1 : List Int) (a0_2 : Int) (a1 : Int), l0_0.length ≤ 1048576 → l0_0.length ≤ maxLen → (∀ e ∈ l0_0, (Lit.int .i64 e).wf = true) → l0_1.length ≤ 1048576 → l0_1.length ≤ maxLen → (∀ e ∈ l0_1, (Lit.int .i64 e).wf = true) → (Lit.int .i64 a0_2).wf = true → (Lit.int .i64 a1).wf = true → ∃ k, frisketlaw17_FillParts.f k l0_0 l0_1 a0_2 a1 = some true := by
  intro l0 l1 c i hl _ _ hl1 _ _ _ _
  obtain ⟨K, hK⟩ : ∃ K : Nat, 900 ≤ K := ⟨900, Nat.le_refl _⟩
  refine ⟨K + 4, ?_⟩
  obtain ⟨b, hb, hb'⟩ := small_some l0 l1 c (K + 4) (by omega)
  unfold frisketlaw17_FillParts.f
  rcases lines_total (c := c) hl hl1 with ⟨hr, hf⟩ | ⟨hk, hr, x, hx, hf⟩
  · rw [hf, Option.bind_some, hb, Option.bind_some]
    simp only
    cases b with
    | false => rw [if_neg (by decide)]; exact parts_quick _ _ _ _ _ _
    | true => rw [if_pos rfl, if_neg (by decide)]; exact parts_quick _ _ _ _ _ _
  · rw [hf, Option.bind_some, hb, Option.bind_some]
    simp only
    cases b with
    | false => rw [if_neg (by decide)]; exact parts_quick _ _ _ _ _ _
    | true =>
      rw [if_pos rfl, if_pos trivial]
      obtain ⟨hs0, hs1⟩ := hb' rfl
      by_cases h0 : i < 0
      · rw [if_pos h0]; exact parts_quick _ _ _ _ _ _
      · rw [if_neg h0]
        by_cases h1 : i ≥ (x.length : Int)
        · rw [decide_eq_true h1]; exact parts_quick _ _ _ _ _ _
        · rw [decide_eq_false h1]
          have hxl := linesN_len (Int.le_refl 0) hx
          obtain ⟨n, rfl⟩ : ∃ n : Nat, i = (n : Int) := ⟨i.toNat, by omega⟩
          have hn : n < x.length := by omega
          obtain ⟨t0, t1, m', hbh⟩ := linesN_behind hk hl n hn (Int.le_refl 0) hx
          have ht := rdT x n hn
          simp only [frisketlaw17_FillParts.j0]
          rw [if_neg (by decide), if_pos (by omega), if_pos (by omega), ht, if_neg (by omega), decide_eq_false (by omega)]
          obtain ⟨s, hs⟩ : ∃ s : Nat, (x[n]).f1 = (s : Int) := ⟨(x[n]).f1.toNat, by omega⟩
          rw [hs] at t1 hbh ⊢
          simp only [frisketlaw17_FillParts.j1]
          have hkl := hk.len
          rw [if_neg (by decide), if_pos (by omega), if_pos (by omega), if_pos (by omega), Int.toNat_natCast]
          have hd0 : (l0.drop s).length ≤ 1048576 := by rw [List.length_drop]; omega
          have hd1 : (l1.drop s).length ≤ 1048576 := by rw [List.length_drop]; omega
          rcases lines_total (c := c) hd0 hd1 with ⟨hr2, hf2⟩ | ⟨hk2, hr2, y, hy, hf2⟩
          · rw [right_drop s t1 hr] at hr2; cases hr2
          · rw [hf2, Option.bind_some]
            simp only
            rw [if_pos trivial]
            have hyl := linesN_len (Int.le_refl 0) hy
            have hsh := linesN_shift hk hl s t1 hk2 _ 0 y (Int.le_refl 0) hy
            rw [Int.zero_add] at hsh
            have hxy : x.drop (n + 1) = y.map (shiftL s) := linesN_uniq hk hl _ (by omega) hbh hsh
            have hlen : (x.length : Int) = n + 1 + y.length := by
              have := congrArg List.length hxy
              rw [List.length_drop, List.length_map] at this
              omega
            have e1 : wrap64 (wrap64 ((x.length : Int) - n) - 1) = (y.length : Int) := by rw [w64 (a := (x.length : Int) - n) (by omega) (by omega), w64 (by omega) (by omega)]; omega
            rw [e1]
            simp only [frisketlaw17_FillParts.j2, bne_self_eq_false, Bool.false_eq_true, if_false]
            have hget : ∀ j : Nat, j < y.length → rd_T32 x ((n : Int) + 1 + j) = shiftL s (rd_T32 y j) := fun j hj => by
              have e2 : (n : Int) + 1 + j = ((n + 1 + j : Nat) : Int) := by omega
              rw [e2, rdT x (n + 1 + j) (by omega), rdT y j hj]
              have h3 : (x.drop (n + 1))[j]'(by rw [hxy, List.length_map]; exact hj) = (y.map (shiftL s))[j]'(by rw [List.length_map]; exact hj) := by simp only [hxy]
              rw [List.getElem_drop, List.getElem_map] at h3
              exact h3
            refine parts_l0 n s x y (by omega) (by omega) hlen hget (fun j hj => ?_) y.length 0 _ (by omega) (by rw [List.length_drop] at hyl; omega)
            obtain ⟨g0, g1, _⟩ := linesN_behind hk2 hd0 j hj (Int.le_refl 0) hy
            have hf0 := linesN_from hk2 hd0 j hj (Int.le_refl 0) hy
            rw [rdT y j hj]
            have hld : ((l0.drop s).length : Int) = (l0.length : Int) - s := by rw [List.length_drop]; omega
            exact ⟨w64 (by omega) (by omega), w64 (by omega) (by omega)⟩
end Go.Proofs.Yteeoomenncocpaa.Pure
