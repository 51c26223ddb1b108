/- The pure side of the law FillLong: at every things and cells its Lean function answers true. -/
import Derived.Test.YteeoomenncocpaaP20
import Derived.Test.YteeoomenncocpaaPureEach
namespace Go.Proofs.Yteeoomenncocpaa.Pure
open Go.RowKit Go.Proofs.Yteeoomenncocpaa.P Go.Proofs.YteeoomenncocpaaW.PrintWords Go.Proofs.YteeoomenncocpaaW.PrintLast Go.Proofs.YteeoomenncocpaaW.PrintMore
set_option linter.unusedVariables false
set_option linter.unusedSimpArgs false

theorem fits_no {l0 l1 : List Int} {c : Int} (hk : Ok l0 l1 c) (hl : l0.length ≤ 1048576) (a b t : Int) (ha : 0 ≤ a) (hb : b ≤ (l0.length : Int)) (ht : a < t) (htb : t + 1 ≤ b) (hs : c < sumP l0 c (t + 1 - a).toNat a) (k : Nat) (hkk : l0.length + 5 ≤ k) :
    fill_Fits.f k l0 a b c = some false := by
  rw [fits_in hk hl a b ha (by omega) hb k hkk (fits_eq hk hl _ _ _ hkk)]
  have h1 := sumP_mono hk a ha (t + 1 - a).toNat (b - (t + 1)).toNat (by omega)
  rw [show (t + 1 - a).toNat + (b - (t + 1)).toNat = (b - a).toNat by omega] at h1
  rw [decide_eq_false]
  rintro (h | h) <;> omega
/-- The search for the next end, and what is asked at it. -/
theorem long_l1 {l0 l1 : List Int} {c : Int} (hk : Ok l0 l1 c) (hl : l0.length ≤ 1048576) (x : List S32) (i : Nat) (t0_ t : Int) (hto : 1 ≤ t0_) (htt : t0_ ≤ t) (htl : t < (l0.length : Int)) (hz : ∀ k : Int, t0_ ≤ k → k < t → rd l1 k = 0)
    (B : Nat) (H : ∀ (z : Int) (k : Nat), t + 1 ≤ z → z ≤ (l0.length : Int) → B ≤ k → frisketlaw17_FillLong.j5 k x i t0_ z l0 l1 c = some true) (d : Nat) :
    ∀ (q : Int) (k : Nat), t0_ + 1 ≤ q → (l0.length : Int) - q = d → B + d + 1 ≤ k → frisketlaw17_FillLong.l1 k x i t0_ q l0 l1 c = some true := by
  have hkl := hk.len
  induction d with
  | zero =>
    intro q k h1 h2 h3
    obtain ⟨k, rfl⟩ : ∃ z, k = z + 1 := ⟨k - 1, by omega⟩
    simp only [frisketlaw17_FillLong.l1]
    rw [if_neg (by omega)]
    exact H q k (by omega) (by omega) (by omega)
  | succ d ih =>
    intro q k h1 h2 h3
    obtain ⟨k, rfl⟩ : ∃ z, k = z + 1 := ⟨k - 1, by omega⟩
    simp only [frisketlaw17_FillLong.l1]
    rw [if_pos (by omega), w64 (a := q - 1) (by omega) (by omega), if_pos (by omega), if_pos (by omega)]
    by_cases g : rd l1 (q - 1) = 0
    · rw [if_pos g, w64 (by omega) (by omega)]
      exact ih (q + 1) k (by omega) (by omega) (by omega)
    · rw [if_neg g]
      by_cases g2 : q - 1 < t
      · exact absurd (hz (q - 1) (by omega) g2) g
      · exact H q k (by omega) (by omega) (by omega)
theorem long_l2 {l0 l1 : List Int} {c : Int} (hk : Ok l0 l1 c) (hl : l0.length ≤ 1048576) (x : List S32) (i : Nat) (hx : x.length ≤ 1048577) (hi : i < x.length) (a t0_ : Int) (ha : 0 ≤ a) (htl : t0_ ≤ (l0.length : Int)) (hz : ∀ k : Int, a ≤ k → k < t0_ → rd l1 k = 0)
    (B : Nat) (H : ∀ k, B ≤ k → frisketlaw17_FillLong.l0 k x ((i + 1 : Nat) : Int) l0 l1 c = some true) (d : Nat) :
    ∀ (q : Int) (k : Nat), a ≤ q → (t0_ - q ≤ d) → B + d + 1 ≤ k → frisketlaw17_FillLong.l2 k x i t0_ q l0 l1 c = some true := by
  have hkl := hk.len
  have e0 : wrap64 ((i : Int) + 1) = ((i + 1 : Nat) : Int) := by rw [w64 (by omega) (by omega)]; omega
  induction d with
  | zero =>
    intro q k h1 h2 h3
    obtain ⟨k, rfl⟩ : ∃ z, k = z + 1 := ⟨k - 1, by omega⟩
    simp only [frisketlaw17_FillLong.l2]
    rw [if_neg (by omega), e0]
    exact H k (by omega)
  | succ d ih =>
    intro q k h1 h2 h3
    obtain ⟨k, rfl⟩ : ∃ z, k = z + 1 := ⟨k - 1, by omega⟩
    simp only [frisketlaw17_FillLong.l2]
    by_cases g : q < t0_
    · rw [if_pos g, if_pos (by omega), if_pos (by omega), if_pos (hz q h1 g), w64 (by omega) (by omega)]
      exact ih (q + 1) k (by omega) (by omega) (by omega)
    · rw [if_neg g, e0]
      exact H k (by omega)
theorem long_l0 {l0 l1 : List Int} {c : Int} (hk : Ok l0 l1 c) (hl : l0.length ≤ 100) (x : List S32) (m : Nat) (hx : linesN l0 l1 c m 0 = some x) (d : Nat) :
    ∀ (i k : Nat), x.length - i = d → i ≤ x.length → (d + 1) * (2 * l0.length + 30) ≤ k → frisketlaw17_FillLong.l0 k x i l0 l1 c = some true := by
  have hxl := linesN_len (Int.le_refl 0) hx
  induction d with
  | zero =>
    intro i k hd hi hkk
    obtain ⟨k, rfl⟩ : ∃ z, k = z + 1 := ⟨k - 1, by omega⟩
    simp only [frisketlaw17_FillLong.l0]
    rw [if_neg (by omega), alive17]
    rfl
  | succ d ih =>
    intro i k hd hi hkk
    have hi' : i < x.length := by omega
    have hm : (d + 1 + 1) * (2 * l0.length + 30) = (d + 1) * (2 * l0.length + 30) + (2 * l0.length + 30) := by rw [Nat.add_mul (d + 1) 1, Nat.one_mul]
    obtain ⟨B, hB⟩ : ∃ B, (d + 1) * (2 * l0.length + 30) = B := ⟨_, rfl⟩
    rw [hB] at hm
    obtain ⟨k, rfl⟩ : ∃ z, k = z + 4 := ⟨k - 4, by omega⟩
    obtain ⟨b, b0, b1, b2, _, _⟩ := linesN_nth hk (by omega) i hi' (Int.le_refl 0) hx
    have ht := lineA_to (l0 := l0) (l1 := l1) (c := c) b0 b1
    have hw := lineA_well hk b0 b1
    have hr := rdT x i hi'
    rw [b2] at hr
    have e0 : Aside0 (wrap64 ((i : Int) + 1) = ((i + 1 : Nat) : Int)) := ⟨by rw [w64 (by omega) (by omega)]; omega⟩
    have next : ∀ k', B ≤ k' → frisketlaw17_FillLong.l0 k' x ((i + 1 : Nat) : Int) l0 l1 c = some true := fun k' hk' => ih (i + 1) k' (by omega) (by omega) (by rw [hB]; exact hk')
    have hkl := hk.len
    obtain ⟨L, hL⟩ : ∃ L, lineA l0 l1 c b = L := ⟨_, rfl⟩
    have hLb : L.f0 = b := by rw [← hL]; rfl
    rw [hL] at ht hw hr
    simp only [frisketlaw17_FillLong.l0]
    rw [if_pos (by omega), if_pos (by omega), hr, if_neg (by omega), decide_eq_false (by omega)]
    simp only [frisketlaw17_FillLong.j2]
    rw [if_neg (by decide)]
    have go : frisketlaw17_FillLong.j3 (k + 2) x i L.f1 true l0 l1 c = some true := by
      simp only [frisketlaw17_FillLong.j3, if_true]
      rw [e0.out]
      exact next _ (by omega)
    by_cases g1 : L.f1 = (l0.length : Int)
    · rw [if_pos g1]; exact go
    · rw [if_neg g1, w64 (a := L.f1 - 1) (by omega) (by omega), if_pos (by omega), if_pos (by omega)]
      by_cases g2 : rd l1 (L.f1 - 1) = 2
      · rw [g2]; exact go
      · rw [show (rd l1 (L.f1 - 1) == 2) = false from beq_eq_false_iff_ne.2 g2]
        rcases hw.long with h | h | ⟨t, t0, t1, t2, t3, t4, t5⟩
        · exact absurd h g1
        · exact absurd h g2
        · simp only [frisketlaw17_FillLong.j3]
          rw [if_neg (by decide), w64 (a := L.f1 + 1) (by omega) (by omega)]
          refine long_l1 hk (by omega) x i L.f1 t (by omega) t1 t2 t4 (B + l0.length + 10) (fun z k' hz1 hz2 hk' => ?_) (l0.length - (L.f1 + 1).toNat) (L.f1 + 1) (k + 1) (by omega) (by omega) (by omega)
          obtain ⟨k', rfl⟩ : ∃ z, k' = z + 1 := ⟨k' - 1, by omega⟩
          simp only [frisketlaw17_FillLong.j5]
          rw [if_pos (by omega), if_pos (by omega), hr, hLb, fits_no hk (by omega) b z t b0 hz2 t0 (by omega) t3 k' (by omega)]
          simp only [Option.bind_some, Bool.false_eq_true, if_false]
          by_cases g3 : L.f3 = true
          · obtain ⟨e1, e2⟩ := t5 g3
            rw [if_pos g3, w64 (a := L.f1 + 1) (by omega) (by omega), fits_no hk (by omega) b (L.f1 + 1) t b0 (by omega) t0 (by omega) t3 k' (by omega)]
            simp only [Option.bind_some, Bool.false_eq_true, if_false]
            exact long_l2 hk (by omega) x i (by omega) hi' b L.f1 b0 ht.2 (fun k h1 h2 => e2 k h1 (by omega)) B next l0.length b k' (by omega) (by omega) (by omega)
          · rw [if_neg g3, e0.out]
            exact next k' (by omega)
theorem FillLong : ∀ (l0_0 : List Int) (l0_1 : List Int) (a0_2 : Int), l0_0.length ≤ 1048576 → l0_0.length ≤ maxLen → (∀ e ∈ l0_0, (Lit.int .i64 e).wf = true) → l0_1.length ≤ 1048576 → l0_1.length ≤ maxLen → (∀ e ∈ l0_1, (Lit.int .i64 e).wf = true) → (Lit.int .i64 a0_2).wf = true → ∃ k, frisketlaw17_FillLong.f k l0_0 l0_1 a0_2 = some true := by
  intro l0 l1 c hl _ _ hl1 _ _ _
  obtain ⟨K, hK⟩ : ∃ K : Nat, 40000 ≤ K := ⟨40000, Nat.le_refl _⟩
  refine ⟨K + 4, ?_⟩
  obtain ⟨b, hb, hb'⟩ := small_some l0 l1 c (K + 4) (by omega)
  unfold frisketlaw17_FillLong.f
  have quick : ∀ x : List S32, frisketlaw17_FillLong.j0 (K + 4) x true l0 l1 c = some true := fun x => by
    simp only [frisketlaw17_FillLong.j0, if_true, alive17]
    rfl
  rcases lines_total (c := c) hl hl1 with ⟨hr, hf⟩ | ⟨hk, hr, x, hx, hf⟩
  · rw [hf, Option.bind_some, hb, Option.bind_some]
    simp only
    cases b with
    | false => rw [if_neg (by decide)]; exact quick _
    | true => rw [if_pos rfl]; exact quick _
  · rw [hf, Option.bind_some, hb, Option.bind_some]
    simp only
    cases b with
    | false => rw [if_neg (by decide)]; exact quick _
    | true =>
      rw [if_pos rfl]
      obtain ⟨hs0, hs1⟩ := hb' rfl
      have hxl := linesN_len (Int.le_refl 0) hx
      simp only [frisketlaw17_FillLong.j0, bne_self_eq_false, Bool.false_eq_true, if_false]
      have hm : (x.length + 1) * (2 * l0.length + 30) ≤ 101 * 230 := Nat.mul_le_mul (by omega) (by omega)
      exact long_l0 hk hs0 x _ hx x.length 0 (K + 3) (by omega) (by omega) (by omega)
end Go.Proofs.Yteeoomenncocpaa.Pure
