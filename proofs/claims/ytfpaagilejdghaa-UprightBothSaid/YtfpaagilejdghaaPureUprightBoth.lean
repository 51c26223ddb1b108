/- The pure side of the law UprightBoth: at every input its Lean function answers true. -/
import Derived.Test.YtfpaagilejdghaaP15
import Derived.Test.YtfpaagilejdghaaOp
namespace Go.Proofs.Ytfpaagilejdghaa.Pure
open Go.RowKit Go.Proofs.Ytfpaagilejdghaa.P Go.Proofs.YtfpaagilejdghaaW.PrintWords Go.Proofs.YtfpaagilejdghaaW.PrintLast

theorem aliveBoth : frisketlaw15_alive.f 20 = some true := by decide +kernel
theorem wayBoth (k : Nat) (s : Int) (f w : Bool) (z p m : Int) (hm : m = 1 ∨ m = 2) : ∃ r, upright_Way.f (k + 2) s f w z p m = some r ∧ upright_Way.f (k + 2) s f w z p (3 - m) = some r := by
  rcases hm with rfl | rfl <;>
  simp only [upright_Way.f, upright_Columns.f, upright_Way.j0, upright_mixed.f, upright_mixed.j0] <;>
  by_cases h3 : p = 1 <;> by_cases h4 : p = 2 <;> by_cases h5 : s = 1 <;> by_cases h6 : s = 2 <;> by_cases h7 : s = 3 <;> cases f <;> simp [h3, h4, h5, h6, h7]
theorem UprightBoth : ∀ (a0_0 : Int) (a0_1 : Bool) (a0_2 : Bool) (a0_3 : Int) (a1 : Int), (Lit.int .i64 a0_0).wf = true → (Lit.int .i64 a0_3).wf = true → (Lit.int .i64 a1).wf = true → ∃ k, frisketlaw15_UprightBoth.f k a0_0 a0_1 a0_2 a0_3 a1 = some true := by
  intro s f w z p _ _ _
  obtain ⟨r, h1, h2⟩ := wayBoth 18 s f w z p 1 (.inl rfl)
  have h2' : upright_Way.f 20 s f w z p 2 = some r := h2
  have hup : upright_Way.f 20 s f w z 1 2 = some 0 := by simp [upright_Way.f, upright_Columns.f, upright_Way.j0]
  have hside : upright_Way.f 20 s f w z 2 2 = some 1 := by simp [upright_Way.f, upright_Columns.f, upright_Way.j0]
  have hn : 1 ≤ mn (mx z 1) 64 ∧ mn (mx z 1) 64 ≤ 64 := by unfold mn mx; split <;> split <;> omega
  refine ⟨20, ?_⟩
  simp only [frisketlaw15_UprightBoth.f, aliveBoth, frisketlaw15_of.f, Option.bind_some, if_true, upright_Reach.f, h1, h2', hup, hside, upright_Columns.f]
  generalize mn (mx z 1) 64 = n at hn
  have e1 : ¬ (n * 2 = n) := by omega
  have e2 : n ≤ n * 2 := by omega
  have e3 : n * 2 ≤ 128 := by omega
  have e4 : 1 ≤ n * 2 := by omega
  have e5 : n ≤ 128 := by omega
  have e6 : 1 ≤ n := by omega
  by_cases hr : r = 1 <;> cases w <;> simp [hr, e1, e2, e3, e4, e5, e6]

end Go.Proofs.Ytfpaagilejdghaa.Pure
