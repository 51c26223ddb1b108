/- The law frisket/frisketlaw20.SheetPlays answers true at every input that its statement speaks of, and leaves its arguments as they were; no condition. After a row that wip/tools/gprint.py wrote. -/
import Derived.Test.YtpljnkfbcgdafaaRows
import Derived.Test.YtpljnkfbcgdafaaOp
import Derived.Test.YtpljnkfbcgdafaaOpAct
import Derived.Test.YtpljnkfbcgdafaaHPlays
namespace Go.Proofs.Ytpljnkfbcgdafaa.Op
open Go.ChangeShapes Go.WideShapes Go.ChangeAt Go.RowKit Go.Proofs.YtpljnkfbcgdafaaW.PrintWords Go.Proofs.YtpljnkfbcgdafaaW.PrintLast Go.Proofs.Ytpljnkfbcgdafaa.P
set_option linter.unusedVariables false
theorem opens_actW : Opens Try.prog 34 k34 (fun _ x => inK x.f1.f0 ∧ inK x.f1.f1) := by
  intro H enc w base spare held fuel cs y h
  obtain ⟨xs, n, _, rfl, hl, hlen, hf⟩ := DataW.trod_struct Try.underlying34 h
  have hC : Try.prog.cellsOf 34 = 6 := by kernel_rfl
  rw [hC] at hl
  obtain ⟨q0, q1, q2, q3, q4, q5, rfl⟩ : ∃ q0 q1 q2 q3 q4 q5, cs = [q0, q1, q2, q3, q4, q5] := by
    match cs, hl with
    | [q0, q1, q2, q3, q4, q5], _ => exact ⟨q0, q1, q2, q3, q4, q5, rfl⟩
  obtain ⟨y0, y1, y2, rfl⟩ : ∃ y0 y1 y2, xs = [y0, y1, y2] := by
    match xs, hlen with
    | [y0, y1, y2], _ => exact ⟨y0, y1, y2, rfl⟩
  have e0 : DataW.trod enc Try.prog w base spare held n 4 [q0] = some y0 := by
    have := hf 0 _ rfl
    have hc : Try.prog.cellsOf 4 = 1 := by kernel_rfl
    simpa [hc] using this
  obtain ⟨u0, hq0, _⟩ := DataW.trod_bool Try.underlying4 e0
  obtain rfl : q0 = _ := (List.cons.inj hq0).1
  have e1 : DataW.trod enc Try.prog w base spare held n 32 [q1, q2, q3, q4] = some y1 := by
    have := hf 1 _ rfl
    have hc : Try.prog.cellsOf 32 = 4 := by kernel_rfl
    simpa [hc] using this
  obtain ⟨a, b, c, d, hq1, w0, w1, _⟩ := opn32 e1
  have e2 : DataW.trod enc Try.prog w base spare held n 3 [q5] = some y2 := by
    have := hf 2 _ rfl
    have hc : Try.prog.cellsOf 3 = 1 := by kernel_rfl
    simpa [hc] using this
  obtain ⟨u2, hq2, _, h2w⟩ := DataW.trod_int Try.underlying3 e2
  simp only [List.cons.injEq, and_true] at hq1 hq2
  obtain ⟨rfl, rfl, rfl, rfl⟩ := hq1
  obtain rfl := hq2
  exact ⟨⟨u0, ⟨a, b, c, d⟩, u2⟩, k34_mk w _, ⟨w0, w1⟩⟩
end Go.Proofs.Ytpljnkfbcgdafaa.Op
namespace Go.Proofs.Ytpljnkfbcgdafaa.sheetPlays
open Go.ChangeShapes Go.WideShapes Go.ChangeAt Go.RowKit
open Go.ChangeMaps (open_string shut_string)
set_option linter.unusedVariables false
theorem own : ownKnob Try.prog.godebug = none := by kernel_rfl
theorem laidOut : laidOutB Try.prog = true := by kernel_rfl
set_option maxRecDepth 100000 in
theorem lifted (os : Os) (started : os.Started) (H : Type) (enc : TypeId × Value → H) :
    ReturnsInHanded {} Try.checked os 3 .any (Rows.sheetPlaysSpec.pre6 enc Try.prog Try.f3 Rows.sheetPlaysRow.domain false) (Rows.sheetPlaysSpec.post enc Try.prog Try.f3 false true false false) := by
  refine returnsInHanded_of_change_sized (C := Try.checked) own started (by kernel_rfl) Try.func3
    (ChangeSpec.witness6 (enc := enc) (C := Try.checked) false ⟨#[], #[.int .i64 0, .int .i64 0, .slice none 0 0], []⟩ 8 (by kernel_rfl) (by kernel_rfl) (by kernel_rfl) (by kernel_rfl)) ?_
  intro W base args ds gs before hval0 hW hcnd hsz0 _
  have hsz : (DataW.weightsEach Try.prog (Try.f3.params.toList ++ Rows.sheetPlaysSpec.plain.varTypes Try.prog) (ds ++ gs)).all (· ≤ reachBytes) = true := hsz0
  have hval : ∀ (j : Nat) t v, Try.f3.params[j]? = some t → args[j]? = some v → Value.okWide Try.prog W .any base t v := hval0
  have hW' := hW
  obtain ⟨p, q, hA0, hV, rfl, hfz, hnd⟩ := hW
  have hA : DataW.TrodAll enc Try.prog W 0 (fun _ => true) true Try.f3.params.toList args.toList ds p := hA0
  rw [Try.params3] at hA hval hsz
  obtain ⟨v0, vs0, d0, ds0, p0, q0, hargs, rfl, rfl, h0, r0⟩ := trodAll_cons hA
  obtain ⟨v1, vs1, d1, ds1, p1, q1, rfl, rfl, rfl, h1, r1⟩ := trodAll_cons r0
  obtain ⟨v2, vs2, d2, ds2, p2, q2, rfl, rfl, rfl, h2, r2⟩ := trodAll_cons r1
  obtain ⟨rfl, rfl, rfl⟩ := trodAll_nil r2
  obtain rfl : args = #[v0, v1, v2] := by cases args; simp_all
  obtain ⟨rfl, rfl⟩ := trodVars_none hV
  have k0 := h0
  have lt0 : ∀ x ∈ p0, x.block < W.heap.size := by obtain ⟨m, hm⟩ := k0; exact DataW.trod_lt m _ _ _ hm
  obtain ⟨a0, rfl, _, _, w0⟩ := open_int Try.underlying3 (hval 0 3 v0 rfl rfl) h0
  have k1 := h1
  have lt1 : ∀ x ∈ p1, x.block < W.heap.size := by obtain ⟨m, hm⟩ := k1; exact DataW.trod_lt m _ _ _ hm
  obtain ⟨a1, rfl, _, _, w1⟩ := open_int Try.underlying3 (hval 1 3 v1 rfl rfl) h1
  have k2 := h2
  have lt2 : ∀ x ∈ p2, x.block < W.heap.size := by obtain ⟨m, hm⟩ := k2; exact DataW.trod_lt m _ _ _ hm
  obtain ⟨A2, n2, c2, rfl⟩ := okWide_slice Try.underlying22 (hval 2 22 v2 rfl rfl)
  obtain ⟨fuel2, hf2⟩ := h2
  obtain ⟨l2, ⟨A2_, c2_, hq2, hc2, hr2⟩, _, _, hw2⟩ := Op.opens_slice Try.underlying22 Op.opens_actW (by kernel_rfl) (by intro b b' x hb hx; exact hx) _ enc _ _ _ _ _ _ _ hf2
  simp only [Value.cells, List.cons.injEq, Value.slice.injEq, and_true] at hq2
  obtain ⟨rfl, rfl, rfl⟩ := hq2
  have y2 := Op.sized_len hsz (j := 2) (t := 22) rfl rfl Try.underlying22 (B := 48) (by kernel_rfl) k2
  clear hA0 hval0 hsz0 hsz
  refine (P.frisketlaw20_SheetPlays.calls a0 a1 _ _ l2 W hr2 y2 hw2).mono ?_
  rintro e W' ⟨rfl, hd⟩
  have bel : Below W.heap.size W W' := hd
  exact ⟨_, rfl, _, _, _, [], _, [], hW', trodAll_mk1 (shut_bool Try.underlying4 _), (trodAll_cons_mk (Below.trod laidOut (by kernel_rfl) (of_decide_eq_true (by kernel_rfl)) k0 bel lt0) (trodAll_cons_mk (Below.trod laidOut (by kernel_rfl) (of_decide_eq_true (by kernel_rfl)) k1 bel lt1) (trodAll_cons_mk (Below.trod laidOut (by kernel_rfl) (of_decide_eq_true (by kernel_rfl)) k2 bel lt2) trodAll_mk0))), rfl, bel.frame _, fun h => by cases h⟩
theorem over : Rows.sheetPlaysRow.holds Try.pinned (OpenSpec.ofChange Rows.sheetPlaysSpec) :=
  OpenClaim.holds_of_wide 3 Try.f3 rfl rfl rfl rfl rfl rfl rfl ⟨rfl, rfl, rfl, rfl, rfl⟩ rfl rfl rfl rfl rfl (by kernel_rfl) Try.func3 (by kernel_rfl)
    (of_decide_eq_true (by kernel_rfl)) (by unfold Func.isWrapper; first | (rw [if_pos (by decide +kernel)]; kernel_rfl) | (rw [if_neg (by decide +kernel)]; exact ⟨rfl, rfl⟩))
    (fun os started H enc _ => lifted os started H enc)
theorem proved : Rows.SheetPlaysSaid := over
#print axioms proved
end Go.Proofs.Ytpljnkfbcgdafaa.sheetPlays
namespace Go.Proofs.Ytpljnkfbcgdafaa
/-- The law's statement. -/
theorem sheetPlays_holds : Rows.SheetPlaysSaid := sheetPlays.proved
end Go.Proofs.Ytpljnkfbcgdafaa
