/- Acts and pairs that come in, opened. -/
import Derived.Test.YtpljnkfbcgdafaaOp
import Derived.Test.YtpljnkfbcgdafaaHAct
namespace Go.Proofs.Ytpljnkfbcgdafaa.Op
open Go.ChangeShapes Go.WideShapes Go.ChangeAt Go.RowKit Go.Proofs.YtpljnkfbcgdafaaW.PrintWords Go.Proofs.YtpljnkfbcgdafaaW.PrintLast Go.Proofs.Ytpljnkfbcgdafaa.P
set_option linter.unusedVariables false
theorem opn44 {H : Type} {enc : TypeId × Value → H} {w : World} {base : Nat} {spare : Nat → Bool} {held : Bool} {fuel : Nat} {cs : List Value} {y : DataW H × List MemPlace} (h : DataW.trod enc Try.prog w base spare held fuel 44 cs = some y) :
    ∃ (x0 : Int) (x1 : Int) , cs = [.int .i64 x0, .int .i64 x1] := by
  obtain ⟨xs, n, _, rfl, hl, hlen, hf⟩ := DataW.trod_array Try.underlying44 h
  have hC : Try.prog.cellsOf 44 = 2 := by kernel_rfl
  rw [hC] at hl
  obtain ⟨q0, q1, rfl⟩ : ∃ q0 q1, cs = [q0, q1] := by
    match cs, hl with
    | [q0, q1], _ => exact ⟨q0, q1, rfl⟩
  obtain ⟨y0, y1, rfl⟩ : ∃ y0 y1, xs = [y0, y1] := by
    match xs, hlen with
    | [y0, y1], _ => exact ⟨y0, y1, rfl⟩
  have e0 : DataW.trod enc Try.prog w base spare held n 3 [q0] = some y0 := by
    have := hf 0 (by omega)
    have hc : Try.prog.cellsOf 3 = 1 := by kernel_rfl
    simpa [hc] using this
  obtain ⟨u0, hq0, _, h0w⟩ := DataW.trod_int Try.underlying3 e0
  obtain rfl : q0 = _ := (List.cons.inj hq0).1
  have e1 : DataW.trod enc Try.prog w base spare held n 3 [q1] = some y1 := by
    have := hf 1 (by omega)
    have hc : Try.prog.cellsOf 3 = 1 := by kernel_rfl
    simpa [hc] using this
  obtain ⟨u1, hq1, _, h1w⟩ := DataW.trod_int Try.underlying3 e1
  obtain rfl : q1 = _ := (List.cons.inj hq1).1
  exact ⟨u0, u1, rfl⟩
theorem opens_act : Opens Try.prog 34 k34 (fun _ _ => True) := by
  intro H enc w base spare held fuel cs y h
  obtain ⟨xs, n, _, rfl, hl, hlen, hf⟩ := DataW.trod_struct Try.underlying34 h
  have hC : Try.prog.cellsOf 34 = 6 := by kernel_rfl
  rw [hC] at hl
  obtain ⟨q0, q1, q2, q3, q4, q5, rfl⟩ : ∃ q0 q1 q2 q3 q4 q5, cs = [q0, q1, q2, q3, q4, q5] := by
    match cs, hl with
    | [q0, q1, q2, q3, q4, q5], _ => exact ⟨q0, q1, q2, q3, q4, q5, rfl⟩
  obtain ⟨y0, y1, y2, rfl⟩ : ∃ y0 y1 y2, xs = [y0, y1, y2] := by
    match xs, hlen with
    | [y0, y1, y2], _ => exact ⟨y0, y1, y2, rfl⟩
  have e0 : DataW.trod enc Try.prog w base spare held n 4 [q0] = some y0 := by
    have := hf 0 _ rfl
    have hc : Try.prog.cellsOf 4 = 1 := by kernel_rfl
    simpa [hc] using this
  obtain ⟨u0, hq0, _⟩ := DataW.trod_bool Try.underlying4 e0
  obtain rfl : q0 = _ := (List.cons.inj hq0).1
  have e1 : DataW.trod enc Try.prog w base spare held n 32 [q1, q2, q3, q4] = some y1 := by
    have := hf 1 _ rfl
    have hc : Try.prog.cellsOf 32 = 4 := by kernel_rfl
    simpa [hc] using this
  obtain ⟨a, b, c, d, hq1, _⟩ := opn32 e1
  have e2 : DataW.trod enc Try.prog w base spare held n 3 [q5] = some y2 := by
    have := hf 2 _ rfl
    have hc : Try.prog.cellsOf 3 = 1 := by kernel_rfl
    simpa [hc] using this
  obtain ⟨u2, hq2, _, h2w⟩ := DataW.trod_int Try.underlying3 e2
  simp only [List.cons.injEq, and_true] at hq1 hq2
  obtain ⟨rfl, rfl, rfl, rfl⟩ := hq1
  obtain rfl := hq2
  exact ⟨⟨u0, ⟨a, b, c, d⟩, u2⟩, k34_mk w _, trivial⟩
end Go.Proofs.Ytpljnkfbcgdafaa.Op
