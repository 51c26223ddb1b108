/- The pure side of the law WeakLeft. -/
import Derived.Test.YtdhknnaholaohaaP14
import Derived.Test.YtdhknnaholaohaaPureAll
namespace Go.Proofs.Ytdhknnaholaohaa.Pure
open Go.RowKit Go.Proofs.Ytdhknnaholaohaa.P Go.Proofs.YtdhknnaholaohaaW.PrintWords Go.Proofs.YtdhknnaholaohaaW.PrintLast
theorem wl_l0 (l : List Int) (hl : l.length ≤ 150) (s a : Int) (hs : frisketlaw10_side.f s = some a) (ha : a = 0 ∨ a = 1) : ∀ (d i k : Nat), i + d = l.length → 1000 + 2 * d ≤ k → frisketlaw10_WeakLeft.l0 k l s (AP a l) (i : Int) = some true
  | 0, i, k, hi, hk => by
    obtain ⟨k, rfl⟩ : ∃ q, k = q + 1 := ⟨k - 1, by omega⟩
    have hn := AP_len a l
    have g := all_f a ha (AP a l) (by omega)
    have t := (AP_twice a ha l).symm
    generalize AP a (AP a l) = z at g t
    generalize AP a l = y at hn g t
    rw [frisketlaw10_WeakLeft.l0, if_neg (by omega), hs, Option.bind_some, g, Option.bind_some, alive10 _ (by omega), Option.bind_some, if_pos rfl, if_pos (show (0 : Int) = 0 from rfl), same_eq _ _ t (by omega) _ (by omega)]
    rfl
  | d + 1, i, k, hi, hk => by
    obtain ⟨k, rfl⟩ : ∃ q, k = q + 2 := ⟨k - 2, by omega⟩
    have hn := AP_len a l
    have e1 : Aside0 (wrap64 ((i : Int) + 1) = ((i + 1 : Nat) : Int)) := ⟨(w64 (by omega) (by omega)).trans (by omega)⟩
    have ih := wl_l0 l hl s a hs ha d (i + 1) k (by omega) (by omega)
    have f8 := (AP_free a ha l 8 (by omega)).2 i (by omega)
    have f2 := (AP_free a ha l 2 (by omega)).2 i (by omega)
    have f4 := (AP_free a ha l 4 (by omega)).2 i (by omega)
    have f5 := (AP_free a ha l 5 (by omega)).2 i (by omega)
    have f7 := (AP_free a ha l 7 (by omega)).2 i (by omega)
    have p0 : (0 : Int) ≤ (i : Int) := by omega
    have p1 : (i : Int) < ((AP a l).length : Int) := by omega
    rw [frisketlaw10_WeakLeft.l0, if_pos (by omega), if_pos p0, if_pos p1, if_neg f8, if_neg f2, if_neg f4, if_neg f5, beq_eq_false_iff_ne.2 f7, frisketlaw10_WeakLeft.j2, e1.out, ih]
    simp only [if_pos p0, if_pos p1, Bool.false_eq_true, if_false]
    by_cases c8 : rd l (i : Int) = 8
    · rw [if_pos c8, if_neg (by omega)]
    · rw [if_neg c8]
      by_cases c3 : rd l (i : Int) = 3
      · rw [if_pos c3, if_neg (by omega)]
      · rw [if_neg c3]
        by_cases c4 : rd l (i : Int) = 4
        · rw [if_pos c4, if_neg (by omega)]
        · rw [if_neg c4]
          by_cases c5 : rd l (i : Int) = 5
          · rw [if_pos c5, if_neg (by omega)]
          · rw [if_neg c5]
            by_cases c2 : rd l (i : Int) = 2
            · rw [if_pos c2, if_pos (AP_two a l i (by omega) c2)]
            · rw [if_neg c2]
              by_cases c7 : rd l (i : Int) = 7
              · rw [if_pos c7]
              · rw [if_neg c7, if_pos (AP_stay a l i (by omega) ⟨c8, c3, c2, c4, c5, c7⟩)]
theorem WeakLeft : ∀ (l0 : List Int) (a1 : Int), l0.length * 8 ≤ 140737488351232 → l0.length ≤ maxLen → (∀ e ∈ l0, (Lit.int .i64 e).wf = true) → (Lit.int .i64 a1).wf = true → ∃ k, frisketlaw10_WeakLeft.f k l0 a1 = some true := by
  intro l s _ _ _ _
  refine ⟨3000, ?_⟩
  unfold frisketlaw10_WeakLeft.f
  by_cases c : (l.length : Int) > 150
  · rw [if_pos c, alive10 _ (by omega)]; rfl
  · obtain ⟨a, hs, ha⟩ := side_f s
    have hn := AP_len a l
    have g := all_f a ha l (by omega)
    have wl := wl_l0 l (by omega) s a hs ha l.length 0 2999 (by omega) (by omega)
    generalize AP a l = y at hn g wl
    have hb : ((y.length : Int) != (l.length : Int)) = false := by rw [hn, bne_self_eq_false]
    rw [if_neg c, hs, Option.bind_some, g, Option.bind_some, if_pos (show (0 : Int) = 0 from rfl), hb, frisketlaw10_WeakLeft.j0, if_neg (by decide)]
    exact wl
end Go.Proofs.Ytdhknnaholaohaa.Pure
