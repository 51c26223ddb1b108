/- The pure side of the law WeakSteps. -/
import Derived.Test.YtdhknnaholaohaaP24
import Derived.Test.YtdhknnaholaohaaPureAll
namespace Go.Proofs.Ytdhknnaholaohaa.Pure
open Go.RowKit Go.Proofs.Ytdhknnaholaohaa.P Go.Proofs.YtdhknnaholaohaaW.PrintWords Go.Proofs.YtdhknnaholaohaaW.PrintLast
theorem ws_l0 (l : List Int) (hl : l.length ≤ 150) (s n a : Int) (hs : frisketlaw10_side.f s = some a) (ha : a = 0 ∨ a = 1) : ∀ (d j k : Nat) (y : List Int), j + d = 7 → y.length = l.length → RA a d j y = AP a l → 1000 + d ≤ k → frisketlaw10_WeakSteps.l0 k l s n y ((j + 1 : Nat) : Int) = some true
  | 0, j, k, y, hj, hy, e, hk => by
    obtain ⟨k, rfl⟩ : ∃ q, k = q + 1 := ⟨k - 1, by omega⟩
    obtain ⟨S, s1, _, s3, s4, s5⟩ := allBoth n l (by omega)
    have e2 : y = AP a l := e
    have hb : (S.2 == 0) = (n == 0 || n == 1) := s4
    rw [frisketlaw10_WeakSteps.l0, if_neg (by omega), hs, Option.bind_some, all_f a ha l (by omega), Option.bind_some, s1, Option.bind_some, alive10 _ (by omega), Option.bind_some, same_eq _ _ e2 (by omega) _ (by omega), Option.bind_some, hb]
    by_cases c0 : n = 0
    · subst c0; rfl
    · by_cases c1 : n = 1
      · subst c1; rfl
      · have hS := s5 (by omega)
        rw [if_neg c0, beq_eq_false_iff_ne.2 c0, beq_eq_false_iff_ne.2 c1, if_neg c1, hS]
        rfl
  | d + 1, j, k, y, hj, hy, e, hk => by
    obtain ⟨k, rfl⟩ : ∃ q, k = q + 1 := ⟨k - 1, by omega⟩
    have e1 : Aside0 (wrap64 (((j + 1 : Nat) : Int) + 1) = ((j + 1 + 1 : Nat) : Int)) := ⟨(w64 (by omega) (by omega)).trans (by omega)⟩
    rw [frisketlaw10_WeakSteps.l0, if_pos (by omega), hs, Option.bind_some, rule_f j (by omega) a ha y (by omega), Option.bind_some, if_pos rfl, e1.out]
    exact ws_l0 l hl s n a hs ha d (j + 1) k _ (by omega) (by rw [RN_len]; exact hy) e (by omega)
theorem WeakSteps : ∀ (l0 : List Int) (a1 : Int) (a2 : Int), l0.length * 8 ≤ 140737488351232 → l0.length ≤ maxLen → (∀ e ∈ l0, (Lit.int .i64 e).wf = true) → (Lit.int .i64 a1).wf = true → (Lit.int .i64 a2).wf = true → ∃ k, frisketlaw10_WeakSteps.f k l0 a1 a2 = some true := by
  intro l s n _ _ _ _ _
  refine ⟨3000, ?_⟩
  unfold frisketlaw10_WeakSteps.f
  by_cases c : (l.length : Int) > 150
  · rw [if_pos c, alive10 _ (by omega)]; rfl
  · obtain ⟨a, hs, ha⟩ := side_f s
    rw [if_neg c, Option.bind_some, if_pos (by simp only [List.length_nil]; omega)]
    exact ws_l0 l (by omega) s n a hs ha 7 0 3000 l rfl rfl rfl (by omega)
end Go.Proofs.Ytdhknnaholaohaa.Pure
