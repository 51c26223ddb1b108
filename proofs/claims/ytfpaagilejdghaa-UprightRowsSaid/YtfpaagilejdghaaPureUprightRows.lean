/- The pure side of the law UprightRows: at every input its Lean function answers true. -/
import Derived.Test.YtfpaagilejdghaaP16
import Derived.Test.YtfpaagilejdghaaOp
namespace Go.Proofs.Ytfpaagilejdghaa.Pure
open Go.RowKit Go.Proofs.Ytfpaagilejdghaa.P Go.Proofs.YtfpaagilejdghaaW.PrintWords Go.Proofs.YtfpaagilejdghaaW.PrintLast

theorem aliveRows : frisketlaw15_alive.f 20 = some true := by decide +kernel
theorem UprightRows : ∀ (a0_0 : Int) (a0_1 : Bool) (a0_2 : Bool) (a0_3 : Int) (a1 : Int) (a2 : Int), (Lit.int .i64 a0_0).wf = true → (Lit.int .i64 a0_3).wf = true → (Lit.int .i64 a1).wf = true → (Lit.int .i64 a2).wf = true → ∃ k, frisketlaw15_UprightRows.f k a0_0 a0_1 a0_2 a0_3 a1 a2 = some true := by
  intro s f w z p m _ _ _ _
  refine ⟨20, ?_⟩
  simp only [frisketlaw15_UprightRows.f, aliveRows, frisketlaw15_of.f, Option.bind_some, if_true, upright_Columns.f, upright_Way.f, upright_Way.j0, upright_Reach.f]
  cases w <;> simp

end Go.Proofs.Ytfpaagilejdghaa.Pure
