/- The pure side of the law FillEach: at every things and cells its Lean function answers true. -/
import Derived.Test.YteeoomenncocpaaP19
import Derived.Test.YteeoomenncocpaaPureEach
namespace Go.Proofs.Yteeoomenncocpaa.Pure
open Go.RowKit Go.Proofs.Yteeoomenncocpaa.P Go.Proofs.YteeoomenncocpaaW.PrintWords Go.Proofs.YteeoomenncocpaaW.PrintLast Go.Proofs.YteeoomenncocpaaW.PrintMore
set_option linter.unusedVariables false
set_option linter.unusedSimpArgs false

/-- The inner loop of a line, and on to the next line. -/
theorem each_l1 {l0 l1 : List Int} {c : Int} (hk : Ok l0 l1 c) (hl : l0.length ≤ 1048576) (x : List S32) (i : Nat) (hi : i < x.length) (hx : x.length ≤ 1048577) (a : Int) (ha : 0 ≤ a) (hal : a < (l0.length : Int)) (hxi : x[i] = lineA l0 l1 c a)
    (B : Nat) (H : ∀ k, B ≤ k → frisketlaw17_FillEach.l0 k x (lineA l0 l1 c a).f1 ((i + 1 : Nat) : Int) l0 l1 c = some true) (d : Nat) :
    ∀ (q : Int) (k : Nat), a ≤ q → q ≤ (l0.length : Int) → (lineA l0 l1 c a).f1 - 1 - q ≤ d → B + d + 1 ≤ k → frisketlaw17_FillEach.l1 k x i q l0 l1 c = some true := by
  have ht := lineA_to (l0 := l0) (l1 := l1) (c := c) ha hal
  have hw := lineA_well hk ha hal
  have hr := rdT x i hi
  have hkl := hk.len
  rw [hxi] at hr
  have e0 : wrap64 ((i : Int) + 1) = ((i + 1 : Nat) : Int) := by rw [w64 (by omega) (by omega)]; omega
  have fin : ∀ (q : Int) (k : Nat), B ≤ k → a ≤ q → ¬ wrap64 (q + 1) < (lineA l0 l1 c a).f1 → q ≤ (l0.length : Int) → frisketlaw17_FillEach.l1 (k + 1) x i q l0 l1 c = some true := by
    intro q k hB h1 h2 h3
    simp only [frisketlaw17_FillEach.l1]
    rw [if_pos (by omega), if_pos (by omega), hr, if_neg h2, w64 (a := (lineA l0 l1 c a).f1 - 1) (by omega) (by omega), if_pos (by omega), if_pos (by omega), e0]
    by_cases g : rd l1 ((lineA l0 l1 c a).f1 - 1) = 0
    · rw [if_pos g]
      by_cases g2 : (lineA l0 l1 c a).f3 = true
      · rw [if_pos g2]; exact H k hB
      · rw [if_neg g2]
        rcases hw.last (by simpa using g2) with h | h
        · rw [if_neg (by omega)]; exact H k hB
        · exact absurd g h
    · rw [if_neg g]; exact H k hB
  induction d with
  | zero =>
    intro q k h1 h4 h2 h3
    obtain ⟨k, rfl⟩ : ∃ z, k = z + 1 := ⟨k - 1, by omega⟩
    exact fin q k (by omega) h1 (by rw [w64 (by omega) (by omega)]; omega) h4
  | succ d ih =>
    intro q k h1 h4 h2 h3
    obtain ⟨k, rfl⟩ : ∃ z, k = z + 1 := ⟨k - 1, by omega⟩
    have e1 : wrap64 (q + 1) = q + 1 := w64 (by omega) (by omega)
    by_cases g : q + 1 < (lineA l0 l1 c a).f1
    · simp only [frisketlaw17_FillEach.l1]
      rw [if_pos (by omega), if_pos (by omega), hr, e1, if_pos g, if_pos (by omega), if_pos (by omega), if_neg (hw.no2 q h1 g)]
      exact ih (q + 1) k (by omega) (by omega) (by omega) (by omega)
    · exact fin q k (by omega) h1 (by rw [e1]; exact g) h4
theorem each_l0 {l0 l1 : List Int} {c : Int} (hk : Ok l0 l1 c) (hl : l0.length ≤ 100) (x : List S32) (m : Nat) (hx : linesN l0 l1 c m 0 = some x) (d : Nat) :
    ∀ (i k : Nat), x.length - i = d → i ≤ x.length → (d + 1) * (l0.length + 20) ≤ k → frisketlaw17_FillEach.l0 k x (if h : 0 < i ∧ i - 1 < x.length then (x[i - 1]'h.2).f1 else 0) i l0 l1 c = some true := by
  have hxl := linesN_len (Int.le_refl 0) hx
  induction d with
  | zero =>
    intro i k hd hi hkk
    obtain ⟨k, rfl⟩ : ∃ z, k = z + 1 := ⟨k - 1, by omega⟩
    simp only [frisketlaw17_FillEach.l0]
    rw [if_neg (by omega), alive17]
    simp only [Option.bind_some, if_true]
    by_cases h : 0 < i ∧ i - 1 < x.length
    · rw [dif_pos h]
      obtain ⟨b, _, _, _, _, h5⟩ := linesN_nth hk (by omega) (i - 1) h.2 (Int.le_refl 0) hx
      rw [h5 (by omega)]
      simp
    · rw [dif_neg h]
      have hx0 : x = [] := List.length_eq_zero_iff.1 (by omega)
      subst hx0
      have : ¬ (0 : Int) < (l0.length : Int) := by
        intro h0
        cases m with
        | zero => simp [linesN] at hx
        | succ m =>
          rw [linesN_go hk (by omega) m (Int.le_refl 0) h0] at hx
          obtain ⟨_, _, e2⟩ := Option.map_eq_some_iff.1 hx
          cases e2
      have e : (l0.length : Int) = 0 := by omega
      rw [e]
      rfl
  | succ d ih =>
    intro i k hd hi hkk
    have hi' : i < x.length := by omega
    have hm : (d + 1 + 1) * (l0.length + 20) = (d + 1) * (l0.length + 20) + (l0.length + 20) := by rw [Nat.add_mul (d + 1) 1, Nat.one_mul]
    obtain ⟨k, rfl⟩ : ∃ z, k = z + 2 := ⟨k - 2, by omega⟩
    obtain ⟨b, b0, b1, b2, b3, _⟩ := linesN_nth hk (by omega) i hi' (Int.le_refl 0) hx
    have hat : (if h : 0 < i ∧ i - 1 < x.length then (x[i - 1]'h.2).f1 else 0) = b := by
      rw [b3]
      by_cases h : 0 < i
      · rw [dif_pos ⟨h, by omega⟩, dif_pos h]
      · rw [dif_neg (fun g => h g.1), dif_neg h]
    rw [hat]
    have ht := lineA_to (l0 := l0) (l1 := l1) (c := c) b0 b1
    have hw := lineA_well hk b0 b1
    have hr := rdT x i hi'
    rw [b2] at hr
    have hsum := lineA_sum (l0 := l0) (l1 := l1) (c := c) b0 b1
    have hle := hw.le
    simp only [frisketlaw17_FillEach.l0]
    rw [if_pos (by omega), if_pos (by omega), hr, if_pos (show (lineA l0 l1 c b).f0 = b from rfl), if_neg (by omega), if_neg (by omega), if_neg (by omega)]
    have hf := fits_in hk (by omega) (lineA l0 l1 c b).f0 (lineA l0 l1 c b).f1 b0 ht.1 ht.2 (k + 1) (by omega) (fits_eq hk (by omega) _ _ _ (by omega))
    rw [hf]
    have e : sumP l0 c ((lineA l0 l1 c b).f1 - (lineA l0 l1 c b).f0).toNat (lineA l0 l1 c b).f0 = (lineA l0 l1 c b).f2 := hsum.symm
    rw [e, decide_eq_true (Or.inr hle)]
    simp only [Option.bind_some, Bool.not_true, frisketlaw17_FillEach.j2]
    rw [if_neg (by decide), if_pos (by omega), if_pos (by omega), hr]
    refine each_l1 hk (by omega) x i hi' (by omega) b b0 b1 b2 ((d + 1) * (l0.length + 20)) (fun k' hk' => ?_) (l0.length) b k (by omega) (by omega) (by omega) (by omega)
    have h9 := ih (i + 1) k' (by omega) (by omega) hk'
    rw [dif_pos ⟨by omega, by omega⟩] at h9
    have e9 : (x[i + 1 - 1]'(by omega)).f1 = (lineA l0 l1 c b).f1 := by simp only [Nat.add_sub_cancel, b2]
    rw [e9] at h9
    exact h9
theorem FillEach : ∀ (l0_0 : List Int) (l0_1 : List Int) (a0_2 : Int), l0_0.length ≤ 1048576 → l0_0.length ≤ maxLen → (∀ e ∈ l0_0, (Lit.int .i64 e).wf = true) → l0_1.length ≤ 1048576 → l0_1.length ≤ maxLen → (∀ e ∈ l0_1, (Lit.int .i64 e).wf = true) → (Lit.int .i64 a0_2).wf = true → ∃ k, frisketlaw17_FillEach.f k l0_0 l0_1 a0_2 = some true := by
  intro l0 l1 c hl _ _ hl1 _ _ _
  obtain ⟨K, hK⟩ : ∃ K : Nat, 20000 ≤ K := ⟨20000, Nat.le_refl _⟩
  refine ⟨K + 4, ?_⟩
  obtain ⟨b, hb, hb'⟩ := small_some l0 l1 c (K + 4) (by omega)
  unfold frisketlaw17_FillEach.f
  have quick : ∀ x : List S32, frisketlaw17_FillEach.j0 (K + 4) x true l0 l1 c = some true := fun x => by
    simp only [frisketlaw17_FillEach.j0, if_true, alive17]
    rfl
  rcases lines_total (c := c) hl hl1 with ⟨hr, hf⟩ | ⟨hk, hr, x, hx, hf⟩
  · rw [hf, Option.bind_some, hb, Option.bind_some]
    simp only
    cases b with
    | false => rw [if_neg (by decide)]; exact quick _
    | true => rw [if_pos rfl]; exact quick _
  · rw [hf, Option.bind_some, hb, Option.bind_some]
    simp only
    cases b with
    | false => rw [if_neg (by decide)]; exact quick _
    | true =>
      rw [if_pos rfl]
      obtain ⟨hs0, hs1⟩ := hb' rfl
      have hxl := linesN_len (Int.le_refl 0) hx
      simp only [frisketlaw17_FillEach.j0, bne_self_eq_false, Bool.false_eq_true, if_false]
      have hm : (x.length + 1) * (l0.length + 20) ≤ 101 * 120 := Nat.mul_le_mul (by omega) (by omega)
      have := each_l0 hk hs0 x _ hx x.length 0 (K + 3) (by omega) (by omega) (by omega)
      rw [dif_neg (fun h => by omega)] at this
      simpa using this
end Go.Proofs.Yteeoomenncocpaa.Pure
