/- The pure side of the law BreaksTell: at every kinds and place its Lean function answers true. -/
import Derived.Test.YtbcflgiapiclgaaP17
import Derived.Test.YtbcflgiapiclgaaPureAt
namespace Go.Proofs.Ytbcflgiapiclgaa.Pure
open Go.RowKit Go.Proofs.Ytbcflgiapiclgaa.P Go.Proofs.YtbcflgiapiclgaaW.PrintWords Go.Proofs.YtbcflgiapiclgaaW.PrintLast Go.Proofs.YtbcflgiapiclgaaW.PrintMore
set_option linter.unusedVariables false
set_option linter.unusedSimpArgs false

theorem BreaksTell : ∀ (l0 : List Int) (a1 : Int), l0.length * 8 ≤ 140737488351232 → l0.length ≤ maxLen → (∀ e ∈ l0, (Lit.int .i64 e).wf = true) → (Lit.int .i64 a1).wf = true → ∃ k, frisketlaw06_BreaksTell.f k l0 a1 = some true := by
  intro l a _ _ _ _
  refine ⟨1000, ?_⟩
  unfold frisketlaw06_BreaksTell.f
  by_cases h : (l.length : Int) > 80
  · rw [if_pos h, alive06 1000 (by decide)]
    rfl
  · have hl : l.length ≤ 80 := by omega
    have hl' : l.length ≤ 1099511627776 := by omega
    rw [if_neg h, Option.bind_some, if_pos (show ([] : List Int).length + l.length < 17592186044416 by simp only [List.length_nil]; omega), all_f l hl', Option.bind_some, refAll_f l hl' 1000 (by omega), Option.bind_some,
      ints_eq _ _ rfl (by rw [allP_len]; exact hl') 1000 (by rw [allP_len]; omega), Option.bind_some, counts_f l hl' 1000 (by omega), Option.bind_some, refCounts_f l hl' 1000 (by omega), Option.bind_some,
      same_eq _ _ rfl (by rw [cntL_len]; exact hl') 1000 (by rw [cntL_len]; omega), Option.bind_some, same_eq l ([] ++ l) rfl hl' 1000 (by omega), Option.bind_some, alive06 1000 (by decide), Option.bind_some, if_pos rfl, if_pos rfl, if_pos rfl, if_pos rfl,
      at_f l hl', Option.bind_some, refAt_f l hl' a 1000 (by omega), Option.bind_some, if_pos rfl, next_f l hl' a 1000 (by omega), Option.bind_some, refNext_f l hl' a 1000 (by omega), Option.bind_some]
    simp
end Go.Proofs.Ytbcflgiapiclgaa.Pure
