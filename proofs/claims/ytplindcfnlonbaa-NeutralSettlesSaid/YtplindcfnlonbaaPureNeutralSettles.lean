/- The pure side of the law NeutralSettles. -/
import Derived.Test.YtplindcfnlonbaaP16
import Derived.Test.YtplindcfnlonbaaPureAll
namespace Go.Proofs.Ytplindcfnlonbaa.Pure
open Go.RowKit Go.Proofs.Ytplindcfnlonbaa.P Go.Proofs.YtplindcfnlonbaaW.PrintWords Go.Proofs.YtplindcfnlonbaaW.PrintLast
theorem NeutralSettles : ∀ (l0 : List Int) (a1_0 : Int) (a1_1 : Int) (a1_2 : Int), l0.length * 8 ≤ 140737488351232 → l0.length ≤ maxLen → (∀ e ∈ l0, (Lit.int .i64 e).wf = true) → (Lit.int .i64 a1_0).wf = true → (Lit.int .i64 a1_1).wf = true → (Lit.int .i64 a1_2).wf = true → ∃ k, frisketlaw12_NeutralSettles.f k l0 a1_0 a1_1 a1_2 = some true := by
  intro l lv fi la _ _ _ _ _ _
  refine ⟨3000, ?_⟩
  unfold frisketlaw12_NeutralSettles.f
  by_cases c : (l.length : Int) > 150
  · rw [if_pos c, alive12 _ (by omega)]; rfl
  · obtain ⟨R, r1, r2, r3⟩ := settleBoth l (by omega) lv fi la
    obtain ⟨S, s1, s2, s3⟩ := raiseBoth l (by omega) lv
    rw [if_neg c, Option.bind_some, if_pos (by simp only [List.length_nil]; omega), seq12, Option.bind_some, r1, Option.bind_some, r2 _ (by omega), Option.bind_some, s1 _ (by omega), Option.bind_some, s2 _ (by omega), Option.bind_some, same_eq _ _ rfl (by omega) _ (by omega), Option.bind_some, same_eq l ([] ++ l) rfl (by omega) _ (by omega), Option.bind_some, alive12 _ (by omega), Option.bind_some, if_pos rfl, if_pos rfl, if_pos rfl, ints_eq _ _ rfl (by omega) _ (by omega), Option.bind_some, if_pos rfl, if_pos rfl]
end Go.Proofs.Ytplindcfnlonbaa.Pure
