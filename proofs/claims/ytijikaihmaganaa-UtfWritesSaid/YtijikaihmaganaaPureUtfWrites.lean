/- The pure side of the law UtfWrites. -/
import Derived.Test.YtijikaihmaganaaP11
import Derived.Test.YtijikaihmaganaaPureRef
namespace Go.Proofs.Ytijikaihmaganaa.Pure
open Go.RowKit Go.Proofs.Ytijikaihmaganaa.P Go.Proofs.YtijikaihmaganaaW.PrintWords Go.Proofs.YtijikaihmaganaaW.PrintLast
set_option linter.unusedVariables false
set_option linter.unusedSimpArgs false
theorem encL_len : ∀ l : List Int, (encL l).1.length ≤ 4 * l.length
  | [] => by simp [encL]
  | c :: r => by
    have ih := encL_len r
    have := bytesF_len c
    rw [encL]
    repeat' split
    all_goals simp
    omega
theorem UtfWrites : ∀ (l0 : List Int) (a1 : Int), l0.length * 8 ≤ 140737488351232 → l0.length ≤ maxLen → (∀ e ∈ l0, (Lit.int .i64 e).wf = true) → (Lit.int .i64 a1).wf = true → ∃ k, frisketlaw01_UtfWrites.f k l0 a1 = some true := by
  intro l c _ _ _ _
  refine ⟨1000, ?_⟩
  unfold frisketlaw01_UtfWrites.f
  by_cases g : (l.length : Int) > 400
  · rw [if_pos g, alive_f]; rfl
  · rw [if_neg g, encode_f l (by omega), refEncode_f l (by omega) 1000 (by omega), alive_f, scal_eq, refScalar]
    simp
end Go.Proofs.Ytijikaihmaganaa.Pure
