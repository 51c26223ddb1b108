/- The pure side of the law UprightTells: at every input its Lean function answers true. -/
import Derived.Test.YtfpaagilejdghaaP12
import Derived.Test.YtfpaagilejdghaaOp
namespace Go.Proofs.Ytfpaagilejdghaa.Pure
open Go.RowKit Go.Proofs.Ytfpaagilejdghaa.P Go.Proofs.YtfpaagilejdghaaW.PrintWords Go.Proofs.YtfpaagilejdghaaW.PrintLast

theorem aliveTells : frisketlaw15_alive.f 20 = some true := by decide +kernel
theorem way_some (k : Nat) (s : Int) (f w : Bool) (z p m : Int) : ∃ r, upright_Way.f (k + 2) s f w z p m = some r ∧ frisketref15_Way.f (k + 2) s f w z p m = some r := by
  simp only [upright_Way.f, frisketref15_Way.f, upright_Columns.f, frisketref15_Columns.f, upright_Way.j0, frisketref15_Way.j0, upright_mixed.f, upright_mixed.j0]
  by_cases h1 : m = 1 <;> by_cases h2 : m = 2 <;> by_cases h3 : p = 1 <;> by_cases h4 : p = 2 <;> by_cases h5 : s = 1 <;> by_cases h6 : s = 2 <;> by_cases h7 : s = 3 <;> cases f <;> simp [h1, h2, h3, h4, h5, h6, h7]
theorem reach_some (k : Nat) (s : Int) (f w : Bool) (z p m : Int) : ∃ r, upright_Reach.f (k + 2) s f w z p m = some r ∧ frisketref15_Reach.f (k + 2) s f w z p m = some r := by
  obtain ⟨r, h1, h2⟩ := way_some k s f w z p m
  simp only [upright_Reach.f, frisketref15_Reach.f, h1, h2, upright_Columns.f, frisketref15_Columns.f]
  by_cases e1 : m = 1 <;> by_cases e2 : m = 2 <;> by_cases e3 : r = 1 <;> cases w <;> simp [e1, e2, e3, Int.mul_comm]

theorem UprightTells : ∀ (a0_0 : Int) (a0_1 : Bool) (a0_2 : Bool) (a0_3 : Int) (a1 : Int) (a2 : Int), (Lit.int .i64 a0_0).wf = true → (Lit.int .i64 a0_3).wf = true → (Lit.int .i64 a1).wf = true → (Lit.int .i64 a2).wf = true → ∃ k, frisketlaw15_UprightTells.f k a0_0 a0_1 a0_2 a0_3 a1 a2 = some true := by
  intro s f w z p m _ _ _ _
  obtain ⟨r, h1, h2⟩ := way_some 18 s f w z p m
  obtain ⟨q, h3, h4⟩ := reach_some 18 s f w z p m
  refine ⟨20, ?_⟩
  simp only [frisketlaw15_UprightTells.f, aliveTells, frisketlaw15_of.f, Option.bind_some, h1, h2, h3, h4, if_true, upright_Columns.f, frisketref15_Columns.f]
  split <;> simp

end Go.Proofs.Ytfpaagilejdghaa.Pure
