/- The pure side of the law WeakRules. -/
import Derived.Test.YtdhknnaholaohaaP23
import Derived.Test.YtdhknnaholaohaaPureAll
namespace Go.Proofs.Ytdhknnaholaohaa.Pure
open Go.RowKit Go.Proofs.Ytdhknnaholaohaa.P Go.Proofs.YtdhknnaholaohaaW.PrintWords Go.Proofs.YtdhknnaholaohaaW.PrintLast
theorem WeakRules : ∀ (l0 : List Int) (a1 : Int) (a2 : Int), l0.length * 8 ≤ 140737488351232 → l0.length ≤ maxLen → (∀ e ∈ l0, (Lit.int .i64 e).wf = true) → (Lit.int .i64 a1).wf = true → (Lit.int .i64 a2).wf = true → ∃ k, frisketlaw10_WeakRules.f k l0 a1 a2 = some true := by
  intro l a n _ _ _ _ _
  refine ⟨3000, ?_⟩
  unfold frisketlaw10_WeakRules.f
  by_cases c : (l.length : Int) > 150
  · rw [if_pos c, alive10 _ (by omega)]; rfl
  · obtain ⟨R, r1, r2, r3⟩ := ruleBoth n a l (by omega)
    obtain ⟨S, s1, s2, s3, _, _⟩ := allBoth a l (by omega)
    rw [if_neg c, Option.bind_some, if_pos (by simp only [List.length_nil]; omega), r1, Option.bind_some, r2 _ (by omega), Option.bind_some, s1, Option.bind_some, s2 _ (by omega), Option.bind_some, same_eq _ _ rfl (by omega) _ (by omega), Option.bind_some, same_eq _ _ rfl (by omega) _ (by omega), Option.bind_some, same_eq l ([] ++ l) rfl (by omega) _ (by omega), Option.bind_some, alive10 _ (by omega), Option.bind_some]
    simp
end Go.Proofs.Ytdhknnaholaohaa.Pure
