/- Written by wip/tools/gprint.py of this repo over the translation: Lean functions that answer as the Go functions named below do, and the proof of it; the conditions stand in each theorem. -/
import Derived.Test.YtfpaagilejdghaaP0
namespace Go.Proofs.Ytfpaagilejdghaa.P
open Go.RowKit Go.Proofs.YtfpaagilejdghaaW.PrintWords Go.Proofs.YtfpaagilejdghaaW.PrintLast Go.Proofs.YtfpaagilejdghaaW.PrintMore
attribute [local go_sem] max2_int min2_int max_two min_two max_three min_three max_four min_four   -- for this text's walks alone
set_option linter.unusedVariables false
set_option linter.unusedSimpArgs false

theorem eqA37 (d : Nat) (w : World) (x0 y0 : Int) (x1 y1 : Int) (x2 y2 : Int) :
    (Op.equalIn (d + 2) 37 (.agg #[Value.int .i64 x0, Value.int .i64 x1, Value.int .i64 x2]) (.agg #[Value.int .i64 y0, Value.int .i64 y1, Value.int .i64 y2])).run Try.prog w = .ok (x0 == y0 && (x1 == y1 && (x2 == y2))) w := by
  have hx0 : (part 3 #[Value.int .i64 x0, Value.int .i64 x1, Value.int .i64 x2] 0).run Try.prog w = .ok (.int .i64 x0) w := by go_simp
  have hx1 : (part 3 #[Value.int .i64 x0, Value.int .i64 x1, Value.int .i64 x2] 1).run Try.prog w = .ok (.int .i64 x1) w := by go_simp
  have hx2 : (part 3 #[Value.int .i64 x0, Value.int .i64 x1, Value.int .i64 x2] 2).run Try.prog w = .ok (.int .i64 x2) w := by go_simp
  have hy0 : (part 3 #[Value.int .i64 y0, Value.int .i64 y1, Value.int .i64 y2] 0).run Try.prog w = .ok (.int .i64 y0) w := by go_simp
  have hy1 : (part 3 #[Value.int .i64 y0, Value.int .i64 y1, Value.int .i64 y2] 1).run Try.prog w = .ok (.int .i64 y1) w := by go_simp
  have hy2 : (part 3 #[Value.int .i64 y0, Value.int .i64 y1, Value.int .i64 y2] 2).run Try.prog w = .ok (.int .i64 y2) w := by go_simp
  have e0 : (Op.equalIn (d + 1) 3 (.int .i64 x0) (.int .i64 y0)).run Try.prog w = .ok (x0 == y0) w := by go_simp
  have e1 : (Op.equalIn (d + 1) 3 (.int .i64 x1) (.int .i64 y1)).run Try.prog w = .ok (x1 == y1) w := by go_simp
  have e2 : (Op.equalIn (d + 1) 3 (.int .i64 x2) (.int .i64 y2)).run Try.prog w = .ok (x2 == y2) w := by go_simp
  have hs : (sizeOf 3).run Try.prog w = .ok 1 w := by go_simp
  rw [Op.equalIn]
  simp only [Sem.run_bind, run_underlying Try.underlying37, Result.andThen_ok, hs]
  simp [Std.Legacy.Range.forIn_eq_forIn_range', List.range', hx0, hx1, hx2, hy0, hy1, hy2, e0, e1, e2]
  by_cases a0 : x0 = y0 <;> by_cases a1 : x1 = y1 <;> by_cases a2 : x2 = y2 <;> simp [a0, a1, a2]
end Go.Proofs.Ytfpaagilejdghaa.P
