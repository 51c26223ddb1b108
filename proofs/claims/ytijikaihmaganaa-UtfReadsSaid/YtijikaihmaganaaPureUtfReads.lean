/- The pure side of the law UtfReads. -/
import Derived.Test.YtijikaihmaganaaP16
import Derived.Test.YtijikaihmaganaaPureRef
namespace Go.Proofs.Ytijikaihmaganaa.Pure
open Go.RowKit Go.Proofs.Ytijikaihmaganaa.P Go.Proofs.YtijikaihmaganaaW.PrintWords Go.Proofs.YtijikaihmaganaaW.PrintLast
set_option linter.unusedVariables false
set_option linter.unusedSimpArgs false
theorem UtfReads : ∀ (l0 : List Int), l0.length * 1 ≤ 140737488351232 → l0.length ≤ maxLen → (∀ e ∈ l0, (Lit.int .u8 e).wf = true) → ∃ k, frisketlaw01_UtfReads.f k l0 = some true := by
  intro l _ _ hw
  have hb := byte_of hw
  refine ⟨1000, ?_⟩
  unfold frisketlaw01_UtfReads.f
  by_cases g : (l.length : Int) > 400
  · rw [if_pos g, alive_f]; rfl
  · have hi := ints_eq (decA (scanN l (l.length + 1) 0)).1 (by have := dec_len l (l.length + 1) 0; omega) 1000 (by have := dec_len l (l.length + 1) 0; omega)
    rw [if_neg g, next_f l hb (by omega), refNext_f l hb (by omega) 1000 (by omega), decode_f l hb (by omega), refDecode_f l hb (by omega) 1000 (by omega), wrong_f l hb (by omega), refWrong_f l hb (by omega) 1000 (by omega), alive_f]
    simp only [Option.bind_some, hi]
    simp
end Go.Proofs.Ytijikaihmaganaa.Pure
