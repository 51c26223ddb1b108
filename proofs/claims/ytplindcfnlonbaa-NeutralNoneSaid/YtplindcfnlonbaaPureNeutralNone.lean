/- The pure side of the law NeutralNone. -/
import Derived.Test.YtplindcfnlonbaaP17
import Derived.Test.YtplindcfnlonbaaPureAll
namespace Go.Proofs.Ytplindcfnlonbaa.Pure
open Go.RowKit Go.Proofs.Ytplindcfnlonbaa.P Go.Proofs.YtplindcfnlonbaaW.PrintWords Go.Proofs.YtplindcfnlonbaaW.PrintLast
theorem nn_j3 (l x y : List Int) (lv fi la : Int) (h0 : 0 ≤ lv) (h1 : lv ≤ 125) (i : Nat) (hx : i < x.length) (hy : i < y.length) (hxy : rd y (i : Int) = rE lv (rd x (i : Int))) (hl : l.length ≤ 150) (hil : i < l.length) (k : Nat) (R : Option Bool)
    (next : frisketlaw12_NeutralNone.l0 k l x y ((i + 1 : Nat) : Int) lv fi la = R) : frisketlaw12_NeutralNone.j3 (k + 1) l x y (i : Int) false lv fi la = R := by
  have e1 : Aside0 (wrap64 ((i : Int) + 1) = ((i + 1 : Nat) : Int)) := ⟨(w64 (by omega) (by omega)).trans (by omega)⟩
  have i0 : (0 : Int) ≤ (i : Int) := by omega
  have ix : (i : Int) < (x.length : Int) := by omega
  have iy : (i : Int) < (y.length : Int) := by omega
  have ho := tmod_01 lv h0
  have hm : Int.tmod lv 2 = lv % 2 := Int.tmod_eq_emod_of_nonneg h0
  rw [frisketlaw12_NeutralNone.j3, if_neg (by decide), if_pos i0, if_pos ix, e1.out, next]
  simp only [if_pos iy]
  rw [hxy]
  clear next hxy ix iy
  by_cases c0 : rd x (i : Int) = 0
  · have e : rE lv (rd x (i : Int)) = lv + Int.tmod lv 2 := by unfold rE; rw [if_neg (by omega), if_pos c0]
    have e2 : Int.tmod (lv + Int.tmod lv 2) 2 = 0 := by rw [Int.tmod_eq_emod_of_nonneg (by omega)]; omega
    rw [if_pos c0, e, if_pos e2, if_neg (by omega)]
  · rw [if_neg c0]
    have e36 : rd x (i : Int) = 3 ∨ rd x (i : Int) = 6 → Int.tmod (rE lv (rd x (i : Int))) 2 = 0 := fun h => by
      rw [show rE lv (rd x (i : Int)) = lv + (2 - Int.tmod lv 2) by unfold rE; rw [if_neg (by omega), if_neg c0, if_pos h], Int.tmod_eq_emod_of_nonneg (by omega)]
      omega
    by_cases c3 : rd x (i : Int) = 3
    · rw [if_pos c3, if_pos (e36 (.inl c3)), if_neg (by omega)]
    · rw [if_neg c3]
      by_cases c6 : rd x (i : Int) = 6
      · rw [if_pos c6, if_pos (e36 (.inr c6)), if_neg (by omega)]
      · rw [if_neg c6]
        by_cases c1 : rd x (i : Int) = 1
        · have e : rE lv (rd x (i : Int)) = lv + (1 - Int.tmod lv 2) := by unfold rE; rw [if_pos c1]
          have e2 : Int.tmod (lv + (1 - Int.tmod lv 2)) 2 = 1 := by rw [Int.tmod_eq_emod_of_nonneg (by omega)]; omega
          rw [if_pos c1, e, if_pos e2]
        · rw [if_neg c1]
theorem rE_in (lv c : Int) (h0 : 0 ≤ lv) : lv ≤ rE lv c ∧ rE lv c ≤ lv + 2 := by
  have ho := tmod_01 lv h0
  unfold rE
  repeat' split
  all_goals omega
theorem nn_l0 (l : List Int) (hl : l.length ≤ 150) (lv fi la : Int) (h : OkS lv fi la) (x : List Int) (hx : x = SL (ownF lv) fi la l) : ∀ (d i k : Nat), i + d = l.length → 1000 + 2 * d ≤ k → frisketlaw12_NeutralNone.l0 k l x (RL lv x) (i : Int) lv fi la = some true
  | 0, i, k, hi, hk => by
    obtain ⟨k, rfl⟩ : ∃ q, k = q + 1 := ⟨k - 1, by omega⟩
    rw [frisketlaw12_NeutralNone.l0, if_neg (by omega), alive12 _ (by omega)]
    rfl
  | d + 1, i, k, hi, hk => by
    obtain ⟨k, rfl⟩ : ∃ q, k = q + 2 := ⟨k - 2, by omega⟩
    obtain ⟨h0, h1, h3, h4⟩ := h
    have hxl : x.length = l.length := by rw [hx, SL_len]
    have hyl : (RL lv x).length = l.length := by rw [RL_len, hxl]
    have hrd : rd x (i : Int) = sN l (ownF lv) fi la i := by rw [hx]; exact rd_SL _ _ _ _ _ (by omega)
    have hry : rd (RL lv x) (i : Int) = rE lv (rd x (i : Int)) := rd_RL lv x i (by omega)
    have hnx : neu (rd x (i : Int)) = false := by rw [hrd]; exact sN_neu l _ fi la (own_01 lv) h3 i
    have nx := nn_j3 l x (RL lv x) lv fi la h0 h1 i (by omega) (by omega) hry hl (by omega) k _ (nn_l0 l hl lv fi la ⟨h0, h1, h3, h4⟩ x hx d (i + 1) k (by omega) (by omega))
    have hin := rE_in lv (rd x (i : Int)) h0
    have a2 : Aside0 (wrap64 (lv + 2) = lv + 2) := ⟨w64 (by omega) (by omega)⟩
    have ix : (i : Int) < (x.length : Int) := by omega
    have iy : (i : Int) < ((RL lv x).length : Int) := by omega
    have last : (if rd (RL lv x) (i : Int) < lv then frisketlaw12_NeutralNone.j3 (k + 1) l x (RL lv x) (i : Int) true lv fi la else frisketlaw12_NeutralNone.j3 (k + 1) l x (RL lv x) (i : Int) (decide (rd (RL lv x) (i : Int) > wrap64 (lv + 2))) lv fi la) = some true := by
      rw [hry, if_neg (by omega), a2.out, decide_eq_false (by omega)]
      exact nx
    rw [frisketlaw12_NeutralNone.l0, if_pos (by omega), if_pos (by omega), refneu_f, Option.bind_some, if_pos ix, refneu_f, Option.bind_some, if_neg (by rw [hnx]; decide)]
    simp only [if_pos iy]
    by_cases cn : neu (rd l (i : Int)) = true
    · rw [if_pos cn]
      have hv : rd x (i : Int) = 0 ∨ rd x (i : Int) = 1 := by
        rw [hrd]; unfold sN; rw [if_pos cn]
        exact mid_cases _ _ _ (own_01 lv) (ah_cases l fi h3 i)
      by_cases c0 : rd x (i : Int) = 0
      · rw [if_pos c0]; exact last
      · rw [if_neg c0, if_pos (by omega)]; exact last
    · rw [if_neg cn, if_pos (by rw [hrd]; exact sN_keep l _ fi la i (by simpa using cn))]
      exact last
theorem NeutralNone : ∀ (l0 : List Int) (a1_0 : Int) (a1_1 : Int) (a1_2 : Int), l0.length * 8 ≤ 140737488351232 → l0.length ≤ maxLen → (∀ e ∈ l0, (Lit.int .i64 e).wf = true) → (Lit.int .i64 a1_0).wf = true → (Lit.int .i64 a1_1).wf = true → (Lit.int .i64 a1_2).wf = true → ∃ k, frisketlaw12_NeutralNone.f k l0 a1_0 a1_1 a1_2 = some true := by
  intro l lv fi la hb _ _ _ _ _
  refine ⟨3000, ?_⟩
  unfold frisketlaw12_NeutralNone.f
  have out : ∀ x, frisketlaw12_NeutralNone.j0 3000 l x true lv fi la = some true := by
    intro x
    rw [show (3000 : Nat) = 2999 + 1 from rfl, frisketlaw12_NeutralNone.j0, if_pos rfl, alive12 _ (by omega)]; rfl
  rw [seq12, Option.bind_some]
  by_cases h : OkS lv fi la
  · rw [settle_f l lv fi la h (by omega), Option.bind_some]
    by_cases c : (l.length : Int) > 150
    · rw [if_pos c]; exact out _
    · have hn := SL_len (ownF lv) fi la l
      have tw := SL_twice l (ownF lv) fi la (own_01 lv) h.2.2.1
      have fin := nn_l0 l (by omega) lv fi la h _ rfl l.length 0 2998 (by omega) (by omega)
      rw [if_neg c, show (3000 : Nat) = 2999 + 1 from rfl]
      simp only []
      generalize SL (ownF lv) fi la l = x at hn tw fin
      have hr := RL_len lv x
      rw [show ((0 : Int) != 0) = false from rfl, frisketlaw12_NeutralNone.j0, if_neg (by decide), seq12, Option.bind_some, settle_f x lv fi la h (by omega), Option.bind_some, raise_f x (by omega) lv h.1 h.2.1 2999 (by omega), Option.bind_some]
      rw [if_pos (show (0 : Int) = 0 from rfl), if_pos (show (0 : Int) = 0 from rfl), if_pos (by omega), if_pos (show ((RL lv x).length : Int) = (l.length : Int) by omega), same_eq _ _ tw.symm (by omega) _ (by omega), Option.bind_some, show (2999 : Nat) = 2998 + 1 from rfl, frisketlaw12_NeutralNone.j1, if_neg (by decide)]
      exact fin
  · rw [settle_no l lv fi la h, Option.bind_some]
    split
    · exact out _
    · exact out _
end Go.Proofs.Ytplindcfnlonbaa.Pure
