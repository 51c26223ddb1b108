/- The law frisket/frisketlaw17.FillLong answers true at every input that its statement speaks of, and leaves its arguments as they were; condition: what it reads is of bulk at most 1048576. Written by wip/tools/gprint.py. -/
import Derived.Test.YteeoomenncocpaaRows
import Derived.Test.YteeoomenncocpaaP20
import Derived.Test.YteeoomenncocpaaOp
import Derived.Test.YteeoomenncocpaaPureFillLong
namespace Go.Proofs.Yteeoomenncocpaa.fillLongUpto
open Go.ChangeShapes Go.WideShapes Go.ChangeAt Go.RowKit
open Go.ChangeMaps (open_string shut_string)
set_option linter.unusedVariables false
theorem own : ownKnob Try.prog.godebug = none := by kernel_rfl
theorem laidOut : laidOutB Try.prog = true := by kernel_rfl
set_option maxRecDepth 100000 in
theorem lifted (os : Os) (started : os.Started) (H : Type) (enc : TypeId × Value → H) (F : Stop.Interp) :
    ReturnsInHanded {} Try.checked os 6 .any ((Rows.OpenSpec.upto Rows.fillLongSpec).pre6 enc Try.prog Try.f6 Rows.fillLongUptoRow.domain false) (((Rows.OpenSpec.upto Rows.fillLongSpec).at F).post enc Try.prog Try.f6 false true false false) := by
  refine returnsInHanded_of_cond (C := Try.checked) (s := Rows.OpenSpec.upto Rows.fillLongSpec) (k := Rows.uptoSmall) rfl own started (by kernel_rfl) Try.func6
    (OpenSpec.witness (enc := enc) (C := Try.checked) (s := Rows.OpenSpec.upto Rows.fillLongSpec) (k := Rows.uptoSmall) rfl false ⟨#[], #[.agg #[.slice none 0 0, .slice none 0 0, .int .i64 0]], []⟩ 8 (by kernel_rfl) (by kernel_rfl) (by kernel_rfl)
      (x := ([.agg [.nil, .nil, .lit (.int .i64 0)]], [], [])) (by kernel_rfl) rfl (by kernel_rfl)) ?_
  intro W base args ds gs before hval0 hW _ hk _
  have hval : ∀ (j : Nat) t v, Try.f6.params[j]? = some t → args[j]? = some v → Value.okWide Try.prog W .any base t v := hval0
  have hW' := hW
  obtain ⟨p, q, hA0, hV, rfl, hfz, hnd⟩ := hW
  have hA : DataW.TrodAll enc Try.prog W 0 (fun _ => true) true Try.f6.params.toList args.toList ds p := hA0
  rw [Try.params6] at hA hval
  obtain ⟨v0, vs0, d0, ds0, p0, q0, hargs, rfl, rfl, h0, r0⟩ := trodAll_cons hA
  obtain ⟨rfl, rfl, rfl⟩ := trodAll_nil r0
  obtain rfl : args = #[v0] := by cases args; simp_all
  obtain ⟨rfl, rfl⟩ := trodVars_none hV
  have hk' : Rows.uptoBulkAll [d0] ≤ 1048576 := by simpa [Rows.uptoSmall] using of_decide_eq_true hk
  have k0 := h0
  have lt0 : ∀ x ∈ p0, x.block < W.heap.size := by obtain ⟨m, hm⟩ := k0; exact DataW.trod_lt m _ _ _ hm
  have bk0 : Rows.uptoBulk d0 ≤ 1048576 := Nat.le_trans (Op.bulk_part (l := [d0]) (by simp)) hk'
  obtain ⟨cs0, rfl, _⟩ := okWide_struct Try.underlying24 (hval 0 24 v0 rfl rfl)
  obtain ⟨fuel0, hf0⟩ := h0
  obtain ⟨l0_0, l0_1, a0_2, A0_0, c0_0, A0_1, c0_1, hq0, hc0_0, hr0_0, hc0_1, hr0_1, hw0_0, hw0_1, hw0_2⟩ := Op.opn24 hf0
  obtain rfl : cs0 = #[.slice A0_0 l0_0.length c0_0, .slice A0_1 l0_1.length c0_1, .int .i64 a0_2] := by cases cs0; simpa [Value.cells] using hq0
  clear hA0 hval0
  obtain ⟨k, hp⟩ := Pure.FillLong l0_0 l0_1 a0_2 (Nat.le_trans hw0_0.2.1 bk0) hw0_0.1 (fun e he => by have z := hw0_0.2.2 e he; exact z) (Nat.le_trans hw0_1.2.1 bk0) hw0_1.1 (fun e he => by have z := hw0_1.2.2 e he; exact z) hw0_2
  refine (P.frisketlaw17_FillLong.calls (k := k) (r := true) (w := W) (hr0_0 := hr0_0) (hc0_0 := hc0_0) (hr0_1 := hr0_1) (hc0_1 := hc0_1) (hrt := rfl) (h := hp)).mono ?_
  rintro e W' ⟨rfl, hd⟩
  have bel : Below W.heap.size W W' := hd
  exact ⟨_, rfl, _, _, _, [], _, [], hW', trodAll_mk1 (shut_bool Try.underlying4 _), (trodAll_cons_mk (Below.trod laidOut (by kernel_rfl) (of_decide_eq_true (by kernel_rfl)) k0 bel lt0) trodAll_mk0), rfl, bel.frame _, fun h => by cases h⟩
theorem over : Rows.fillLongUptoRow.holds Try.pinned (Rows.OpenSpec.upto Rows.fillLongSpec) :=
  OpenClaim.holds_of_cond 6 Try.f6 rfl rfl rfl rfl rfl rfl rfl ⟨rfl, rfl, rfl, rfl, rfl⟩ rfl rfl rfl rfl rfl (by kernel_rfl) Try.func6 (by kernel_rfl)
    (of_decide_eq_true (by kernel_rfl)) (by unfold Func.isWrapper; first | (rw [if_pos (by decide +kernel)]; kernel_rfl) | (rw [if_neg (by decide +kernel)]; exact ⟨rfl, rfl⟩))
    (fun os started H enc _ F => lifted os started H enc F)
theorem proved : Rows.FillLongUptoSaid := over
#print axioms proved
end Go.Proofs.Yteeoomenncocpaa.fillLongUpto
namespace Go.Proofs.Yteeoomenncocpaa
/-- The law's statement. -/
theorem fillLongUpto_holds : Rows.FillLongUptoSaid := fillLongUpto.proved
end Go.Proofs.Yteeoomenncocpaa
