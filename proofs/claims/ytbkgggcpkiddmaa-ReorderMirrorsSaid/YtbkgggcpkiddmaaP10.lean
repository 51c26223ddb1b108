/- Written by wip/tools/gprint.py of this repo over the translation: Lean functions that answer as the Go functions named below do, and the proof of it; the conditions stand in each theorem. -/
import Derived.Test.YtbkgggcpkiddmaaP0
namespace Go.Proofs.Ytbkgggcpkiddmaa.P
open Go.RowKit Go.Proofs.YtbkgggcpkiddmaaW.PrintWords Go.Proofs.YtbkgggcpkiddmaaW.PrintLast Go.Proofs.YtbkgggcpkiddmaaW.PrintMore
attribute [local go_sem] max2_int min2_int max_two min_two max_three min_three max_four min_four   -- for this text's walks alone
set_option linter.unusedVariables false
set_option linter.unusedSimpArgs false

/-! ### reorder_Mirrors: function 16 -/
def reorder_Mirrors.f (a0 : Int) (a1 : Bool) : Option (Bool) := some (((Int.tmod a0 2) != 0) != a1)
set_option maxHeartbeats 8000000 in
set_option maxRecDepth 100000 in
theorem reorder_Mirrors.calls (a0 : Int) (a1 : Bool) (r : Bool) (w : World) (h : reorder_Mirrors.f a0 a1 = some r) :
    Calls Try.prog 16 #[.int .i64 a0, .bool a1] w fun e w' => e = .returned (.bool r) ∧ Drawn0 w w' := by
  have H : (some (((Int.tmod a0 2) != 0) != a1)) = some r := h
  clear h
  obtain rfl := Option.some.inj H
  go_enter Try.func16, Try.ntmps16
  go_wp2
  go_ret
  exact ⟨by first | rfl | (simp; done) | (simp [*]; done), by repeat (first | exact Drawn0.refl _ | apply Drawn0.step)⟩

end Go.Proofs.Ytbkgggcpkiddmaa.P
